/- The row of the law FnExactAlphaOf: for every input the call returns true, and each argument reads behind it as it read before; no condition of ours. -/
import Derived.Carry
import Derived.Test.YtoncacdehhmpaaaQAo3
namespace Go.Proofs.Ytoncacdehhmpaaa.P
open Go.RowKit Go.Proofs.YtoncacdehhmpaaaW.PrintWords Go.Proofs.YtoncacdehhmpaaaW.PrintLast Go.Proofs.YtoncacdehhmpaaaW.PrintMore
attribute [local go_sem] max2_int min2_int max_two min_two max_three min_three max_four min_four
set_option linter.unusedVariables false
set_option linter.unusedSimpArgs false
open Go.Proofs.YtoncacdehhmpaaaX in
def aoStep (st : List (ByteArray × Int) × List S106) (i : Int) (t : S120) : List (ByteArray × Int) × List S106 :=
  if t.f0 = 0 then st
  else if t.f2.toList.isEmpty = true then (st.1, st.2 ++ [⟨i, if t.f0 = 3 then t.f1 else 1, -1, t.f3⟩])
  else if (lookS st.1 t.f2).isSome = true then (st.1, st.2 ++ [⟨i, if t.f0 = 3 then t.f1 else 1, (lookS st.1 t.f2).getD 0, ⟨0, 0, ⟨#[]⟩⟩⟩])
  else if t.f0 = 2 then ((t.f2, i) :: st.1, st.2) else st
def aoRun (ts : List S120) : Nat → List (ByteArray × Int) × List S106
  | 0 => ([], [])
  | n + 1 => aoStep (aoRun ts n) n (rd_T120 ts n)
def impl_AlphaOf.f (a0_0 : Bool) (a0_1 : ByteArray) (l0_2 : List S120) : Option (ByteArray × Int × List S106) :=
  some (if goodPatB a0_1 l0_2 = true then (a0_1, (l0_2.length : Int), (aoRun l0_2 l0_2.length).2) else (⟨#[]⟩, 0, []))
theorem aoRun_length (ts : List S120) (n : Nat) : (aoRun ts n).2.length ≤ n := by
  induction n with
  | zero => exact Nat.le_refl _
  | succ n ih =>
    simp only [aoRun, aoStep]
    repeat' split
    all_goals first | omega | (simp only [List.length_append, List.length_singleton]; omega) | (simp; omega)
theorem goodTerm_small (t : S120) (h : goodTermB t = true) : t.f2.size ≤ maxLen := by
  have e0 : t.f2.toList.isEmpty = true → t.f2.size = 0 := by
    intro e
    rw [ByteArray.toList_eq, List.isEmpty_iff] at e
    have := congrArg List.length e
    rw [Array.length_toList] at this
    simpa using this
  have e1 : Go.Proofs.YtoncacdehhmpaaaX.goodSymB t.f2 = true → t.f2.size ≤ maxLen := by
    intro e
    unfold Go.Proofs.YtoncacdehhmpaaaX.goodSymB at e
    split at e
    · cases e
    split at e
    · cases e
    unfold maxLen
    omega
  unfold goodTermB at h
  split at h
  · simp only [Bool.and_eq_true] at h
    rw [e0 h.2.1]; exact Nat.zero_le _
  split at h
  · simp only [Bool.and_eq_true] at h
    rw [e0 h.1.2]; exact Nat.zero_le _
  split at h
  · simp only [Bool.and_eq_true] at h
    exact e1 h.2
  split at h
  · split at h
    · cases h
    split at h
    · cases h
    split at h
    · rename_i e
      rw [e0 e]; exact Nat.zero_le _
    · simp only [Bool.and_eq_true] at h
      exact e1 h.1
  · cases h
open Go.Proofs.YtoncacdehhmpaaaX in
set_option maxHeartbeats 8000000 in
set_option maxRecDepth 100000 in
theorem impl_AlphaOf.calls (a0_0 : Bool) (a0_1 : ByteArray) (A0_2 : Option Addr) (c0_2 : Nat) (l0_2 : List (S120)) (r1 : ByteArray) (r2 : Int) (r3 : List (S106)) (w : World) (hr0_2 : Kd.C k120 w A0_2 l0_2.length l0_2) (hc0_2 : l0_2.length ≤ c0_2) (h : impl_AlphaOf.f a0_0 a0_1 l0_2 = some (r1, r2, r3)) :
    Calls Try.prog 26 #[.agg #[.bool a0_0, .string a0_1, .slice A0_2 l0_2.length c0_2]] w fun e w' => ∃ v2_ : Value, e = .returned (.agg #[.string r1, .int .i64 r2, v2_]) ∧ Kd.R k106 106 w' w.heap.size (fun _ => True) v2_ r3 ∧ Below w.heap.size w w' := by
  have h := Option.some.inj h
  have hu0 := Try.underlying61
  have hu1 := Try.underlying34
  have hu2 := Try.underlying120
  have hu3 := Try.underlying106
  have hu4 := Try.underlying104
  have HB := Aside0.mk (Below.refl w.heap.size w)
  have HR := Aside0.mk hr0_2
  have HC := Aside0.mk hc0_2
  clear hr0_2 hc0_2
  cases hg : goodPatB a0_1 l0_2 with
  | false =>
    rw [hg, if_neg (by decide)] at h
    cases h
    have HG := Aside0.mk (show impl_Pattern_good.f a0_0 a0_1 l0_2 = some false by unfold impl_Pattern_good.f; rw [hg])
    clear hg
    go_enter Try.func26, Try.ntmps26
    go_wp2_with (go_at_call 74; refine (impl_Pattern_good.calls a0_0 a0_1 _ _ l0_2 _ _ (Kd.C_below HR.out (by repeat (first | exact HB.out | apply below_alloc))) HC.out HG.out).mono ?_; rintro e w1 ⟨rfl, hd⟩; obtain ⟨hc1, hf1⟩ := cellsBelow hd rfl; have hsz : w.heap.size + 2 ≤ w1.heap.size := (by have hs0 := hd.size; simpa using hs0); have hszl : w.heap.size < w1.heap.size := (by omega); have hszn : w.heap.size ≠ w1.heap.size := (by omega); have hszm : w.heap.size ≠ w1.heap.size + 1 := (by omega))
    have hb2 : w1.heap[w.heap.size + 1]? = some (.cells #[.string (⟨#[]⟩ : ByteArray), .int .i64 0, .slice none 0 0] 34 (0, 0)) := by
      have := blk_below (blk_new (w.alloc (Obj.cells #[.bool a0_0, .string a0_1, .slice A0_2 l0_2.length c0_2] 61)) (Obj.cells #[.string (⟨#[]⟩ : ByteArray), .int .i64 0, .slice none 0 0] 34)) hd
      simpa using this
    have hB : Below w.heap.size w w1 := Below.trans (by repeat (first | exact HB.out | apply below_alloc)) (hd.mono (by first | (simp; done) | (simp; omega)))
    refine bodyPost_ret (results_cell_row rfl _ _ (w.heap.size + 1) 34 #[.string (⟨#[]⟩ : ByteArray), .int .i64 0, .slice none 0 0] (0, 0) _ rfl (blk_put (blk_put (blk_put hb2 0 _ rfl) 1 _ rfl) 2 _ rfl) Try.underlying34 rfl (by kernel_rfl)) rfl ?_
    exact ⟨_, rfl, Kd.R_nil _ _ _ _ _, below_set (below_set (below_set hB (by omega)) (by omega)) (by omega)⟩
  | true =>
    rw [hg, if_pos rfl] at h
    cases h
    have HG := Aside0.mk (show impl_Pattern_good.f a0_0 a0_1 l0_2 = some true by unfold impl_Pattern_good.f; rw [hg])
    have hlen : l0_2.length ≤ 6 := by
      unfold goodPatB at hg
      simp only [Bool.and_eq_true, decide_eq_true_eq] at hg
      exact hg.2.1
    have hall : ∀ i : Nat, i < l0_2.length → (rd_T120 l0_2 i).f2.size ≤ maxLen := by
      intro i hi
      apply goodTerm_small
      unfold goodPatB at hg
      simp only [Bool.and_eq_true, List.all_eq_true] at hg
      have e : rd_T120 l0_2 (i : Int) = l0_2[i] := by
        unfold rd_T120
        simp [hi]
      rw [e]
      exact hg.2.2 _ (List.getElem_mem hi)
    clear hg
    have HA := Aside0.mk hall
    clear hall
    go_enter Try.func26, Try.ntmps26
    have hmm := @run_makeMap Try.prog
    go_wp2_with (go_at_call 74; refine (impl_Pattern_good.calls a0_0 a0_1 _ _ l0_2 _ _ (Kd.C_below HR.out (by repeat (first | exact HB.out | apply below_alloc))) HC.out HG.out).mono ?_; rintro e w1 ⟨rfl, hd⟩; obtain ⟨hc1, hf1⟩ := cellsBelow hd rfl; have hsz : w.heap.size + 2 ≤ w1.heap.size := (by have hs0 := hd.size; simpa using hs0); have hszl : w.heap.size < w1.heap.size := (by omega); have hszn : w.heap.size ≠ w1.heap.size := (by omega); have hszm : w.heap.size ≠ w1.heap.size + 1 := (by omega))
    have hb2 : w1.heap[w.heap.size + 1]? = some (.cells #[.string (⟨#[]⟩ : ByteArray), .int .i64 0, .slice none 0 0] 34 (0, 0)) := by
      have := blk_below (blk_new (w.alloc (Obj.cells #[.bool a0_0, .string a0_1, .slice A0_2 l0_2.length c0_2] 61)) (Obj.cells #[.string (⟨#[]⟩ : ByteArray), .int .i64 0, .slice none 0 0] 34)) hd
      simpa using this
    have hB : Below w.heap.size w w1 := Below.trans (by repeat (first | exact HB.out | apply below_alloc)) (hd.mono (by first | (simp; done) | (simp; omega)))
    have hsz : w.heap.size + 2 ≤ w1.heap.size := by have := hd.size; simpa using this
    have B2 := Aside0.mk hb2
    have BW := Aside0.mk hB
    clear hb2 hB hd hc1 hf1
    go_loopg [24] l0_2.length (fun gg s24 wr => ∃ (i n : Nat) (va : Value), i ≤ l0_2.length ∧ l0_2.length - i ≤ gg ∧ s24 = .int .i64 i ∧ n ≤ i ∧ Aside0 (wr.heap[w.heap.size + 1]? = some (.cells #[.string (⟨#[]⟩ : ByteArray), .int .i64 0, .slice none 0 0] 34 (0, 0))) ∧ Aside0 (wr.heap[w1.heap.size]? = some (.cells #[.string a0_1, .int .i64 (l0_2.length : Int), va] 34 (0, 0))) ∧ Aside0 (Kd.R k106 106 wr w.heap.size (fun k => k ≠ w1.heap.size + 1) va (aoRun l0_2 i).2) ∧ Aside0 (MapS wr (w1.heap.size + 1) n (aoRun l0_2 i).1) ∧ Aside0 (Below w.heap.size w wr))
    case atStart =>
      refine ⟨0, 0, _, Nat.zero_le _, Nat.le_refl _, rfl, Nat.le_refl _, ⟨?_⟩, ⟨?_⟩, ⟨Kd.R_nil _ _ _ _ _⟩, ⟨?_⟩, ⟨?_⟩⟩
      · exact blk_alloc (blk_alloc B2.out _) _
      · exact blk_alloc (blk_new _ _) _
      · have hm := MapS_made (w1.alloc (Obj.cells #[.string a0_1, .int .i64 (l0_2.length : Int), .slice none 0 0] 34))
        have es : (w1.alloc (Obj.cells #[.string a0_1, .int .i64 (l0_2.length : Int), .slice none 0 0] 34)).heap.size = w1.heap.size + 1 := by simp
        rw [es] at hm
        exact hm
      · exact below_alloc (below_alloc BW.out _) _
    case round =>
      obtain ⟨i, n, va, hi, hgg, rfl, hn, BK2, BK3, HO, HM, HB1⟩ := hrel
      by_cases hlt : i < l0_2.length
      · have hsv := HA.out i hlt
        have hml := HM.out.lt
        obtain ⟨ad, e0, hx0, hx1, hx2, hx3, hx4, hx5⟩ := at_T120 HR.out (i : Int) (by omega) (by omega)
        cases e0
        replace hx0 := (HB1.out.cell (World.block_lt_of_cell? w _ hx0)).trans hx0
        replace hx1 := (HB1.out.cell (World.block_lt_of_cell? w _ hx1)).trans hx1
        replace hx2 := (HB1.out.cell (World.block_lt_of_cell? w _ hx2)).trans hx2
        replace hx3 := (HB1.out.cell (World.block_lt_of_cell? w _ hx3)).trans hx3
        replace hx4 := (HB1.out.cell (World.block_lt_of_cell? w _ hx4)).trans hx4
        replace hx5 := (HB1.out.cell (World.block_lt_of_cell? w _ hx5)).trans hx5
        have hz : (i : Int) < (l0_2.length : Int) := by omega
        have hz0 : (0 : Int) ≤ (i : Int) := by omega
        have hnat : (i : Int).toNat = i := by omega
        simp only [Int.toNat_natCast] at hx0 hx1 hx2 hx3 hx4 hx5
        generalize ht : rd_T120 l0_2 (i : Int) = t at *
        by_cases q0 : t.f0 = 0
        · have p0 : (t.f0 == 0) = true := beq_iff_eq.mpr q0
          have p3 : (t.f0 == 3) = false := by rw [q0]; rfl
          have hrun : aoRun l0_2 (i + 1) = aoRun l0_2 i := by simp only [aoRun, aoStep]; rw [ht, if_pos q0]
          have HRUN := Aside0.mk hrun
          clear hrun
          go_wp2_with (at_lookup; refine wpList_lookS rfl _ _ rfl (w1.heap.size + 1) n (aoRun l0_2 i).1 (MapS.alloc HM.out _) rfl t.f2 hsv rfl ?_)
          go_roundg (l0_2.length - (i + 1))
          case measure => omega
          case rel => exact ⟨i + 1, n, va, by omega, by omega, by go_num, by omega, ⟨blk_alloc BK2.out _⟩, ⟨blk_alloc BK3.out _⟩, ⟨by rw [HRUN.out]; exact Kd.R_alloc HO.out _⟩, ⟨by rw [HRUN.out]; exact MapS.alloc HM.out _⟩, ⟨below_alloc HB1.out _⟩⟩
        · have p0 : (t.f0 == 0) = false := beq_eq_false_iff_ne.mpr q0
          have hal := aoRun_length l0_2 i
          have hwr := HB1.out.size
          have hwi : (Lit.int .i64 (i : Int)).wf = true := by have h9 := wrap64_wf (i : Int); rwa [show wrap64 (i : Int) = i by unfold wrap64; omega] at h9
          have hb3l := blk_lt BK3.out
          have HN := Aside0.mk (show w.heap.size + 1 ≠ w1.heap.size by omega)
          have HN2 := Aside0.mk (show w1.heap.size + 1 ≠ w1.heap.size by omega)
          have HN3 := Aside0.mk (show w.heap.size ≤ w1.heap.size by omega)
          have hb2l := blk_lt BK2.out
          obtain ⟨Ao, co, eo⟩ := Kd.R_slice HO.out
          subst eo
          have hu0' := blk_cell BK3.out 0
          have hu1' := blk_cell BK3.out 1
          have hu2' := blk_cell BK3.out 2
          simp only [List.getElem?_toArray, List.getElem?_cons_zero, List.getElem?_cons_succ] at hu0' hu1' hu2'
          by_cases q3 : t.f0 = 3
          · have p3 : (t.f0 == 3) = true := beq_iff_eq.mpr q3
            cases e2 : t.f2.toList.isEmpty with
            | true =>
              have hrun : aoRun l0_2 (i + 1) = ((aoRun l0_2 i).1, (aoRun l0_2 i).2 ++ [(⟨(i : Int), t.f1, -1, t.f3⟩ : S106)]) := by simp only [aoRun, aoStep]; rw [ht]; simp [*]
              have HRUN := Aside0.mk hrun
              clear hrun
              go_wp2_with (first | (at_lookup; refine wpList_lookS rfl _ _ rfl (w1.heap.size + 1) n (aoRun l0_2 i).1 (MapS.alloc HM.out _) rfl t.f2 hsv rfl ?_) | (at_builtin; refine Kd.R_append k106 (w0 := w) w.heap.size rfl (.tmp 50) (.tmp 56) 32 106 (.agg #[(.int .i64 0), (.int .i64 0), (.int .i64 0), (.int .i64 0), (.int .i64 0), (.string ⟨#[]⟩)]) 56 rfl Try.underlying32 info106 rfl (by decide) (by omega) (.slice Ao (aoRun l0_2 i).2.length co) (aoRun l0_2 i).2 (⟨(i : Int), t.f1, -1, t.f3⟩ : S106) [.int .i64 (i : Int), .int .i64 t.f1, .int .i64 (-1), .int .i64 t.f3.f0, .int .i64 t.f3.f1, .string t.f3.f2] (fun k => k ≠ w1.heap.size + 1) (fun _ => False) rfl (by first | rfl | (show Value.slice (some ⟨wr.heap.size + 1, 0, none⟩) 1 1 = _; simp)) ?aP (fun _ hk => hk.elim) ?aF ?aO ?aB ?aS ?aL ?_; (case aP => exact k106_mkM _ _ _ (⟨(i : Int), t.f1, -1, t.f3⟩ : S106)); (case aF => intro k hk; simp at hk; omega); (case aO => exact Kd.R_alloc HO.out _); (case aB => exact below_alloc HB1.out _); (case aS => exact below_size (below_alloc HB1.out _)); (case aL => omega); intro v2 w2 ho hb hg2 hat; have B3' := Aside0.mk (blk_grown (blk_alloc BK3.out _) hg2 (Kd.R_ne HO.out BK3.out (by decide))); have B2' := Aside0.mk (blk_grown (blk_alloc BK2.out _) hg2 (Kd.R_ne HO.out BK2.out (by decide))); have M' := Aside0.mk ((MapS.alloc HM.out _).kept hg2 (Kd.R_away HO.out (fun _ hk => hk))); have O' := Aside0.mk ho; have HB' := Aside0.mk hb; clear ho hb hg2 hat; obtain ⟨Ao2, co2, eo2⟩ := Kd.R_slice O'.out; subst eo2; rw [List.length_append, List.length_singleton] at O'; have hv0 := (blk_cell B3'.out 0).trans rfl; have hv1 := (blk_cell B3'.out 1).trans rfl; have hv2 := (blk_cell B3'.out 2).trans rfl; have hy0 := blk_frozen B3'.out 0; have hy1 := blk_frozen B3'.out 1; have hy2 := blk_frozen B3'.out 2))
              go_roundg (l0_2.length - (i + 1))
              case measure => omega
              case rel => exact ⟨i + 1, n, _, by omega, by omega, by go_num, by omega, ⟨blk_far B2'.out HN.out _⟩, ⟨blk_put B3'.out 2 _ rfl⟩, ⟨by rw [HRUN.out]; exact Kd.R_mono (Kd.R_far (p := ⟨w1.heap.size, 2, none⟩) (Kd.R_types O'.out B3'.out (by decide)) (fun _ hk => hk.2) _) (fun _ hk => hk.1)⟩, ⟨by rw [HRUN.out]; exact MapS.setCell M'.out HN2.out _⟩, ⟨below_set HB'.out HN3.out⟩⟩
            | false =>
              cases hL : (lookS (aoRun l0_2 i).1 t.f2).isSome with
              | true =>
                have hrun : aoRun l0_2 (i + 1) = ((aoRun l0_2 i).1, (aoRun l0_2 i).2 ++ [(⟨(i : Int), t.f1, ((lookS (aoRun l0_2 i).1 t.f2).getD 0), ⟨0, 0, ⟨#[]⟩⟩⟩ : S106)]) := by simp only [aoRun, aoStep]; rw [ht]; simp [*]
                have HRUN := Aside0.mk hrun
                clear hrun
                go_wp2_with (first | (at_lookup; refine wpList_lookS rfl _ _ rfl (w1.heap.size + 1) n (aoRun l0_2 i).1 (MapS.alloc HM.out _) rfl t.f2 hsv rfl ?_) | (at_builtin; refine Kd.R_append k106 (w0 := w) w.heap.size rfl (.tmp 62) (.tmp 67) 32 106 (.agg #[(.int .i64 0), (.int .i64 0), (.int .i64 0), (.int .i64 0), (.int .i64 0), (.string ⟨#[]⟩)]) 56 rfl Try.underlying32 info106 rfl (by decide) (by omega) (.slice Ao (aoRun l0_2 i).2.length co) (aoRun l0_2 i).2 (⟨(i : Int), t.f1, ((lookS (aoRun l0_2 i).1 t.f2).getD 0), ⟨0, 0, ⟨#[]⟩⟩⟩ : S106) [.int .i64 (i : Int), .int .i64 t.f1, .int .i64 ((lookS (aoRun l0_2 i).1 t.f2).getD 0), .int .i64 0, .int .i64 0, .string ⟨#[]⟩] (fun k => k ≠ w1.heap.size + 1) (fun _ => False) rfl (by first | rfl | (show Value.slice (some ⟨wr.heap.size + 1, 0, none⟩) 1 1 = _; simp)) ?aP (fun _ hk => hk.elim) ?aF ?aO ?aB ?aS ?aL ?_; (case aP => exact k106_mkM _ _ _ (⟨(i : Int), t.f1, ((lookS (aoRun l0_2 i).1 t.f2).getD 0), ⟨0, 0, ⟨#[]⟩⟩⟩ : S106)); (case aF => intro k hk; simp at hk; omega); (case aO => exact Kd.R_alloc HO.out _); (case aB => exact below_alloc HB1.out _); (case aS => exact below_size (below_alloc HB1.out _)); (case aL => omega); intro v2 w2 ho hb hg2 hat; have B3' := Aside0.mk (blk_grown (blk_alloc BK3.out _) hg2 (Kd.R_ne HO.out BK3.out (by decide))); have B2' := Aside0.mk (blk_grown (blk_alloc BK2.out _) hg2 (Kd.R_ne HO.out BK2.out (by decide))); have M' := Aside0.mk ((MapS.alloc HM.out _).kept hg2 (Kd.R_away HO.out (fun _ hk => hk))); have O' := Aside0.mk ho; have HB' := Aside0.mk hb; clear ho hb hg2 hat; obtain ⟨Ao2, co2, eo2⟩ := Kd.R_slice O'.out; subst eo2; rw [List.length_append, List.length_singleton] at O'; have hv0 := (blk_cell B3'.out 0).trans rfl; have hv1 := (blk_cell B3'.out 1).trans rfl; have hv2 := (blk_cell B3'.out 2).trans rfl; have hy0 := blk_frozen B3'.out 0; have hy1 := blk_frozen B3'.out 1; have hy2 := blk_frozen B3'.out 2))
                go_roundg (l0_2.length - (i + 1))
                case measure => omega
                case rel => exact ⟨i + 1, n, _, by omega, by omega, by go_num, by omega, ⟨blk_far B2'.out HN.out _⟩, ⟨blk_put B3'.out 2 _ rfl⟩, ⟨by rw [HRUN.out]; exact Kd.R_mono (Kd.R_far (p := ⟨w1.heap.size, 2, none⟩) (Kd.R_types O'.out B3'.out (by decide)) (fun _ hk => hk.2) _) (fun _ hk => hk.1)⟩, ⟨by rw [HRUN.out]; exact MapS.setCell M'.out HN2.out _⟩, ⟨below_set HB'.out HN3.out⟩⟩
              | false =>
                have p2 : (t.f0 == 2) = false := by rw [q3]; rfl
                have hrun : aoRun l0_2 (i + 1) = aoRun l0_2 i := by simp only [aoRun, aoStep]; rw [ht]; simp [*]
                have HRUN := Aside0.mk hrun
                clear hrun
                go_wp2_with (first | (at_lookup; refine wpList_lookS rfl _ _ rfl (w1.heap.size + 1) n (aoRun l0_2 i).1 (MapS.alloc HM.out _) rfl t.f2 hsv rfl ?_))
                go_roundg (l0_2.length - (i + 1))
                case measure => omega
                case rel => exact ⟨i + 1, n, _, by omega, by omega, by go_num, by omega, ⟨blk_alloc BK2.out _⟩, ⟨blk_alloc BK3.out _⟩, ⟨by rw [HRUN.out]; exact Kd.R_alloc HO.out _⟩, ⟨by rw [HRUN.out]; exact MapS.alloc HM.out _⟩, ⟨below_alloc HB1.out _⟩⟩
          · have p3 : (t.f0 == 3) = false := beq_eq_false_iff_ne.mpr q3
            cases e2 : t.f2.toList.isEmpty with
            | true =>
              have hrun : aoRun l0_2 (i + 1) = ((aoRun l0_2 i).1, (aoRun l0_2 i).2 ++ [(⟨(i : Int), 1, -1, t.f3⟩ : S106)]) := by simp only [aoRun, aoStep]; rw [ht]; simp [*]
              have HRUN := Aside0.mk hrun
              clear hrun
              go_wp2_with (first | (at_lookup; refine wpList_lookS rfl _ _ rfl (w1.heap.size + 1) n (aoRun l0_2 i).1 (MapS.alloc HM.out _) rfl t.f2 hsv rfl ?_) | (at_builtin; refine Kd.R_append k106 (w0 := w) w.heap.size rfl (.tmp 50) (.tmp 56) 32 106 (.agg #[(.int .i64 0), (.int .i64 0), (.int .i64 0), (.int .i64 0), (.int .i64 0), (.string ⟨#[]⟩)]) 56 rfl Try.underlying32 info106 rfl (by decide) (by omega) (.slice Ao (aoRun l0_2 i).2.length co) (aoRun l0_2 i).2 (⟨(i : Int), 1, -1, t.f3⟩ : S106) [.int .i64 (i : Int), .int .i64 1, .int .i64 (-1), .int .i64 t.f3.f0, .int .i64 t.f3.f1, .string t.f3.f2] (fun k => k ≠ w1.heap.size + 1) (fun _ => False) rfl (by first | rfl | (show Value.slice (some ⟨wr.heap.size + 1, 0, none⟩) 1 1 = _; simp)) ?aP (fun _ hk => hk.elim) ?aF ?aO ?aB ?aS ?aL ?_; (case aP => exact k106_mkM _ _ _ (⟨(i : Int), 1, -1, t.f3⟩ : S106)); (case aF => intro k hk; simp at hk; omega); (case aO => exact Kd.R_alloc HO.out _); (case aB => exact below_alloc HB1.out _); (case aS => exact below_size (below_alloc HB1.out _)); (case aL => omega); intro v2 w2 ho hb hg2 hat; have B3' := Aside0.mk (blk_grown (blk_alloc BK3.out _) hg2 (Kd.R_ne HO.out BK3.out (by decide))); have B2' := Aside0.mk (blk_grown (blk_alloc BK2.out _) hg2 (Kd.R_ne HO.out BK2.out (by decide))); have M' := Aside0.mk ((MapS.alloc HM.out _).kept hg2 (Kd.R_away HO.out (fun _ hk => hk))); have O' := Aside0.mk ho; have HB' := Aside0.mk hb; clear ho hb hg2 hat; obtain ⟨Ao2, co2, eo2⟩ := Kd.R_slice O'.out; subst eo2; rw [List.length_append, List.length_singleton] at O'; have hv0 := (blk_cell B3'.out 0).trans rfl; have hv1 := (blk_cell B3'.out 1).trans rfl; have hv2 := (blk_cell B3'.out 2).trans rfl; have hy0 := blk_frozen B3'.out 0; have hy1 := blk_frozen B3'.out 1; have hy2 := blk_frozen B3'.out 2))
              go_roundg (l0_2.length - (i + 1))
              case measure => omega
              case rel => exact ⟨i + 1, n, _, by omega, by omega, by go_num, by omega, ⟨blk_far B2'.out HN.out _⟩, ⟨blk_put B3'.out 2 _ rfl⟩, ⟨by rw [HRUN.out]; exact Kd.R_mono (Kd.R_far (p := ⟨w1.heap.size, 2, none⟩) (Kd.R_types O'.out B3'.out (by decide)) (fun _ hk => hk.2) _) (fun _ hk => hk.1)⟩, ⟨by rw [HRUN.out]; exact MapS.setCell M'.out HN2.out _⟩, ⟨below_set HB'.out HN3.out⟩⟩
            | false =>
              cases hL : (lookS (aoRun l0_2 i).1 t.f2).isSome with
              | true =>
                have hrun : aoRun l0_2 (i + 1) = ((aoRun l0_2 i).1, (aoRun l0_2 i).2 ++ [(⟨(i : Int), 1, ((lookS (aoRun l0_2 i).1 t.f2).getD 0), ⟨0, 0, ⟨#[]⟩⟩⟩ : S106)]) := by simp only [aoRun, aoStep]; rw [ht]; simp [*]
                have HRUN := Aside0.mk hrun
                clear hrun
                go_wp2_with (first | (at_lookup; refine wpList_lookS rfl _ _ rfl (w1.heap.size + 1) n (aoRun l0_2 i).1 (MapS.alloc HM.out _) rfl t.f2 hsv rfl ?_) | (at_builtin; refine Kd.R_append k106 (w0 := w) w.heap.size rfl (.tmp 62) (.tmp 67) 32 106 (.agg #[(.int .i64 0), (.int .i64 0), (.int .i64 0), (.int .i64 0), (.int .i64 0), (.string ⟨#[]⟩)]) 56 rfl Try.underlying32 info106 rfl (by decide) (by omega) (.slice Ao (aoRun l0_2 i).2.length co) (aoRun l0_2 i).2 (⟨(i : Int), 1, ((lookS (aoRun l0_2 i).1 t.f2).getD 0), ⟨0, 0, ⟨#[]⟩⟩⟩ : S106) [.int .i64 (i : Int), .int .i64 1, .int .i64 ((lookS (aoRun l0_2 i).1 t.f2).getD 0), .int .i64 0, .int .i64 0, .string ⟨#[]⟩] (fun k => k ≠ w1.heap.size + 1) (fun _ => False) rfl (by first | rfl | (show Value.slice (some ⟨wr.heap.size + 1, 0, none⟩) 1 1 = _; simp)) ?aP (fun _ hk => hk.elim) ?aF ?aO ?aB ?aS ?aL ?_; (case aP => exact k106_mkM _ _ _ (⟨(i : Int), 1, ((lookS (aoRun l0_2 i).1 t.f2).getD 0), ⟨0, 0, ⟨#[]⟩⟩⟩ : S106)); (case aF => intro k hk; simp at hk; omega); (case aO => exact Kd.R_alloc HO.out _); (case aB => exact below_alloc HB1.out _); (case aS => exact below_size (below_alloc HB1.out _)); (case aL => omega); intro v2 w2 ho hb hg2 hat; have B3' := Aside0.mk (blk_grown (blk_alloc BK3.out _) hg2 (Kd.R_ne HO.out BK3.out (by decide))); have B2' := Aside0.mk (blk_grown (blk_alloc BK2.out _) hg2 (Kd.R_ne HO.out BK2.out (by decide))); have M' := Aside0.mk ((MapS.alloc HM.out _).kept hg2 (Kd.R_away HO.out (fun _ hk => hk))); have O' := Aside0.mk ho; have HB' := Aside0.mk hb; clear ho hb hg2 hat; obtain ⟨Ao2, co2, eo2⟩ := Kd.R_slice O'.out; subst eo2; rw [List.length_append, List.length_singleton] at O'; have hv0 := (blk_cell B3'.out 0).trans rfl; have hv1 := (blk_cell B3'.out 1).trans rfl; have hv2 := (blk_cell B3'.out 2).trans rfl; have hy0 := blk_frozen B3'.out 0; have hy1 := blk_frozen B3'.out 1; have hy2 := blk_frozen B3'.out 2))
                go_roundg (l0_2.length - (i + 1))
                case measure => omega
                case rel => exact ⟨i + 1, n, _, by omega, by omega, by go_num, by omega, ⟨blk_far B2'.out HN.out _⟩, ⟨blk_put B3'.out 2 _ rfl⟩, ⟨by rw [HRUN.out]; exact Kd.R_mono (Kd.R_far (p := ⟨w1.heap.size, 2, none⟩) (Kd.R_types O'.out B3'.out (by decide)) (fun _ hk => hk.2) _) (fun _ hk => hk.1)⟩, ⟨by rw [HRUN.out]; exact MapS.setCell M'.out HN2.out _⟩, ⟨below_set HB'.out HN3.out⟩⟩
              | false =>
                by_cases q2 : t.f0 = 2
                · have p2 : (t.f0 == 2) = true := beq_iff_eq.mpr q2
                  have hrun : aoRun l0_2 (i + 1) = ((t.f2, (i : Int)) :: (aoRun l0_2 i).1, (aoRun l0_2 i).2) := by simp only [aoRun, aoStep]; rw [ht]; simp [*]
                  have HRUN := Aside0.mk hrun
                  clear hrun
                  go_wp2_with (first | (at_lookup; refine wpList_lookS rfl _ _ rfl (w1.heap.size + 1) n (aoRun l0_2 i).1 (MapS.alloc HM.out _) rfl t.f2 hsv rfl ?_) | (at_mapUpdate; refine wpList_putS rfl _ _ _ rfl (w1.heap.size + 1) n (aoRun l0_2 i).1 (MapS.alloc HM.out _) (by unfold maxLen; omega) rfl t.f2 hsv rfl (i : Int) hwi rfl ?_; intro w2 hm2 hg2; have B3' := Aside0.mk (blk_grown (blk_alloc BK3.out _) hg2 (by intro e; injection e with e; omega)); have B2' := Aside0.mk (blk_grown (blk_alloc BK2.out _) hg2 (by intro e; injection e with e; omega)); have O' := Aside0.mk (Kd.R_grown (Kd.R_alloc HO.out _) hg2 (fun k hk e => hk (by injection e))); have M' := Aside0.mk hm2; have HB' := Aside0.mk ((below_alloc HB1.out _).grown hg2 (below_size (below_alloc HB1.out _)) (by intro k e; injection e with e; omega)); clear hm2 hg2))
                  go_roundg (l0_2.length - (i + 1))
                  case measure => omega
                  case rel => exact ⟨i + 1, n + 1, _, by omega, by omega, by go_num, by omega, ⟨B2'.out⟩, ⟨B3'.out⟩, ⟨by rw [HRUN.out]; exact O'.out⟩, ⟨by rw [HRUN.out]; exact M'.out⟩, ⟨HB'.out⟩⟩
                · have p2 : (t.f0 == 2) = false := beq_eq_false_iff_ne.mpr q2
                  have hrun : aoRun l0_2 (i + 1) = aoRun l0_2 i := by simp only [aoRun, aoStep]; rw [ht]; simp [*]
                  have HRUN := Aside0.mk hrun
                  clear hrun
                  go_wp2_with (first | (at_lookup; refine wpList_lookS rfl _ _ rfl (w1.heap.size + 1) n (aoRun l0_2 i).1 (MapS.alloc HM.out _) rfl t.f2 hsv rfl ?_))
                  go_roundg (l0_2.length - (i + 1))
                  case measure => omega
                  case rel => exact ⟨i + 1, n, _, by omega, by omega, by go_num, by omega, ⟨blk_alloc BK2.out _⟩, ⟨blk_alloc BK3.out _⟩, ⟨by rw [HRUN.out]; exact Kd.R_alloc HO.out _⟩, ⟨by rw [HRUN.out]; exact MapS.alloc HM.out _⟩, ⟨below_alloc HB1.out _⟩⟩
      · have hil : i = l0_2.length := by omega
        subst hil
        obtain ⟨Ao, co, eo⟩ := Kd.R_slice HO.out
        subst eo
        have hx0 := blk_cell BK3.out 0
        have hx1 := blk_cell BK3.out 1
        have hx2 := blk_cell BK3.out 2
        have hv0 := blk_cell BK2.out 0
        have hv1 := blk_cell BK2.out 1
        have hv2 := blk_cell BK2.out 2
        simp only [List.getElem?_toArray, List.getElem?_cons_zero, List.getElem?_cons_succ] at hx0 hx1 hx2 hv0 hv1 hv2
        have hy0 := blk_frozen BK2.out 0
        have hy1 := blk_frozen BK2.out 1
        have hy2 := blk_frozen BK2.out 2
        go_wp2
        refine bodyPost_ret (results_cell_row rfl _ _ (w.heap.size + 1) 34 #[.string a0_1, .int .i64 (l0_2.length : Int), .slice Ao (aoRun l0_2 l0_2.length).2.length co] (0, 0) _ rfl (blk_put (blk_put (blk_put BK2.out 0 _ rfl) 1 _ rfl) 2 _ rfl) Try.underlying34 rfl (by kernel_rfl)) rfl ?_
        exact ⟨_, rfl, Kd.R_mono (Kd.R_far (Kd.R_far (Kd.R_far (Kd.R_types HO.out BK2.out (by decide)) (fun _ hk => hk.2) _) (fun _ hk => hk.2) _) (fun _ hk => hk.2) _) (fun _ _ => trivial), below_set (below_set (below_set HB1.out (by omega)) (by omega)) (by omega)⟩
end Go.Proofs.Ytoncacdehhmpaaa.P
namespace Go.Proofs.Ytoncacdehhmpaaa.P
open Go.RowKit Go.Proofs.YtoncacdehhmpaaaW.PrintWords Go.Proofs.YtoncacdehhmpaaaW.PrintLast Go.Proofs.YtoncacdehhmpaaaW.PrintMore
attribute [local go_sem] max2_int min2_int max_two min_two max_three min_three max_four min_four
set_option linter.unusedVariables false
set_option linter.unusedSimpArgs false
def laws_eqTerm.f (a0_0 : Int) (a0_1 : Int) (a0_2 : ByteArray) (a0_3 : Int) (a0_4 : Int) (a0_5 : ByteArray) (a1_0 : Int) (a1_1 : Int) (a1_2 : ByteArray) (a1_3 : Int) (a1_4 : Int) (a1_5 : ByteArray) : Option (Bool) := if a0_0 = a1_0 then (if a0_1 = a1_1 then (if a0_2.toList = a1_2.toList then ((laws_eqValue.f a0_3 a0_4 a0_5 a1_3 a1_4 a1_5).bind fun t363 => (if t363 = true then (some true) else (some false))) else (some false)) else (some false)) else (some false)
set_option maxHeartbeats 8000000 in
set_option maxRecDepth 100000 in
theorem laws_eqTerm.calls (a0_0 : Int) (a0_1 : Int) (a0_2 : ByteArray) (a0_3 : Int) (a0_4 : Int) (a0_5 : ByteArray) (a1_0 : Int) (a1_1 : Int) (a1_2 : ByteArray) (a1_3 : Int) (a1_4 : Int) (a1_5 : ByteArray) (r : Bool) (w : World) (h : laws_eqTerm.f a0_0 a0_1 a0_2 a0_3 a0_4 a0_5 a1_0 a1_1 a1_2 a1_3 a1_4 a1_5 = some r) (hT_ : r = true := by first | rfl | assumption) :
    Calls Try.prog 120 #[.agg #[.int .i64 a0_0, .int .i64 a0_1, .string a0_2, .int .i64 a0_3, .int .i64 a0_4, .string a0_5], .agg #[.int .i64 a1_0, .int .i64 a1_1, .string a1_2, .int .i64 a1_3, .int .i64 a1_4, .string a1_5]] w fun e w' => e = .returned (.bool r) ∧ Below w.heap.size w w' := by
  subst hT_
  have hu120 := Try.underlying120
  have hu104 := Try.underlying104
  have HB := Aside0.mk (Below.refl w.heap.size w)
  have H : (if a0_0 = a1_0 then (if a0_1 = a1_1 then (if a0_2.toList = a1_2.toList then ((laws_eqValue.f a0_3 a0_4 a0_5 a1_3 a1_4 a1_5).bind fun t363 => (if t363 = true then (some true) else (some false))) else (some false)) else (some false)) else (some false)) = some true := h
  clear h
  by_cases c3 : a0_0 = a1_0
  · rw [if_pos c3] at H
    have c3b0 : (a0_0 == a1_0) = true := beq_iff_eq.mpr c3
    have c3b1 : (a0_0 != a1_0) = false := bne_eq_false_iff_eq.mpr c3
    clear c3
    by_cases c4 : a0_1 = a1_1
    · rw [if_pos c4] at H
      have c4b0 : (a0_1 == a1_1) = true := beq_iff_eq.mpr c4
      have c4b1 : (a0_1 != a1_1) = false := bne_eq_false_iff_eq.mpr c4
      clear c4
      by_cases c5 : a0_2.toList = a1_2.toList
      · rw [if_pos c5] at H
        have c5b0 : (a0_2.toList == a1_2.toList) = true := beq_iff_eq.mpr c5
        have c5b1 : (a0_2.toList != a1_2.toList) = false := bne_eq_false_iff_eq.mpr c5
        clear c5
        replace H := Option.bind_eq_some_iff.mp H
        obtain ⟨t363, A60, H⟩ := H
        replace H : (if t363 = true then (some true) else (some false)) = some true := H
        have A6 := Aside0.mk A60
        clear A60
        by_cases c7 : t363 = true
        · subst c7
          have H1 : (some true) = some true := by first | (rw [if_pos rfl] at H; exact H) | rfl
          clear H
          have H := H1
          clear H1
          clear H
          go_enter Try.func120, Try.ntmps120
          go_wp2_with (first | ((with_reducible refine gate_dst (N := 2) rfl ?_); refine box_event ?hg (N := 2) ?hd (cs := #[.int .i64 a0_0, .int .i64 a0_1, .string a0_2, .int .i64 a0_3, .int .i64 a0_4, .string a0_5]) (t := 120) ?hr ?_; (case hd => rfl); (case hg => rfl); (case hr => first | (go_simp; done) | (go_simp; rfl)); intro gb361 hg w8 hbox hb; have n0_ := Aside0.mk (below_step (by repeat (first | (with_reducible first | exact HB.out | apply below_alloc | apply pw_below_drewN | apply below_drew1) | exact HB.out)) hb); have n1_ := Aside0.mk (hbox); have n2_ := Aside0.mk ((by rw [hg]; exact (below_size (by repeat (first | (with_reducible first | exact HB.out | apply below_alloc | apply pw_below_drewN | apply below_drew1) | exact HB.out))) : w.heap.size ≤ gb361)); have n3_ := Aside0.mk ((by rw [hg]; exact (below_size (by repeat (first | (with_reducible first | exact HB.out | apply below_alloc | apply pw_below_drewN | apply below_drew1) | exact HB.out))) : w.heap.size ≤ gb361)); clear HB; have HB := n0_; have BK361 := n1_; have GW361 := n2_; have GE361 := n3_; clear n0_ n1_ n2_ n3_; clear hb hbox hg) | ((with_reducible refine gate_dst (N := 3) rfl ?_); refine box_event ?hg (N := 3) ?hd (cs := #[.int .i64 a1_0, .int .i64 a1_1, .string a1_2, .int .i64 a1_3, .int .i64 a1_4, .string a1_5]) (t := 120) ?hr ?_; (case hd => rfl); (case hg => rfl); (case hr => first | (go_simp; done) | (go_simp; rfl)); intro gb362 hg w9 hbox hb; have n0_ := Aside0.mk (blk_below (g := gb361) (o := .cells #[.int .i64 a0_0, .int .i64 a0_1, .string a0_2, .int .i64 a0_3, .int .i64 a0_4, .string a0_5] 120 (0, 0)) (by (with_reducible repeat (first | refine blk_drewN ?_ _ | refine blk_drew ?_ | refine blk_alloc ?_ _)); exact BK361.out) hb); have n1_ := Aside0.mk (below_step (by repeat (first | (with_reducible first | exact HB.out | apply below_alloc | apply pw_below_drewN | apply below_drew1 | refine below_set ?_ GE361.out) | exact HB.out)) hb); have n2_ := Aside0.mk (hbox); have n3_ := Aside0.mk ((by rw [hg]; exact (below_size (by repeat (first | (with_reducible first | exact HB.out | apply below_alloc | apply pw_below_drewN | apply below_drew1 | refine below_set ?_ GE361.out) | exact HB.out))) : w.heap.size ≤ gb362)); have n4_ := Aside0.mk ((by rw [hg]; exact (below_size (by repeat (first | (with_reducible first | exact HB.out | apply below_alloc | apply pw_below_drewN | apply below_drew1 | refine below_set ?_ GE361.out) | exact HB.out))) : w.heap.size ≤ gb362)); have n5_ := Aside0.mk ((by rw [hg]; exact Nat.ne_of_lt (blk_lt (g := gb361) (o := .cells #[.int .i64 a0_0, .int .i64 a0_1, .string a0_2, .int .i64 a0_3, .int .i64 a0_4, .string a0_5] 120 (0, 0)) (by (with_reducible repeat (first | refine blk_drewN ?_ _ | refine blk_drew ?_ | refine blk_alloc ?_ _)); exact BK361.out)) : gb361 ≠ gb362)); have n6_ := Aside0.mk ((by rw [hg]; exact Nat.ne_of_gt (blk_lt (g := gb361) (o := .cells #[.int .i64 a0_0, .int .i64 a0_1, .string a0_2, .int .i64 a0_3, .int .i64 a0_4, .string a0_5] 120 (0, 0)) (by (with_reducible repeat (first | refine blk_drewN ?_ _ | refine blk_drew ?_ | refine blk_alloc ?_ _)); exact BK361.out)) : gb362 ≠ gb361)); clear BK361; clear HB; have BK361 := n0_; have HB := n1_; have BK362 := n2_; have GW362 := n3_; have GE362 := n4_; have NB361_362 := n5_; have NB362_361 := n6_; clear n0_ n1_ n2_ n3_ n4_ n5_ n6_; clear hb hbox hg; have hnb10 := NB361_362.out; have hnc10 := NB362_361.out; have hcz11_0 : w9.cell? ⟨gb361, 0, none⟩ = some (.int .i64 a0_0) := (blk_cell BK361.out 0).trans rfl; have hcz11_1 : w9.cell? ⟨gb361, 1, none⟩ = some (.int .i64 a0_1) := (blk_cell BK361.out 1).trans rfl; have hcz11_2 : w9.cell? ⟨gb361, 2, none⟩ = some (.string a0_2) := (blk_cell BK361.out 2).trans rfl; have hcz11_3 : w9.cell? ⟨gb361, 3, none⟩ = some (.int .i64 a0_3) := (blk_cell BK361.out 3).trans rfl; have hcz11_4 : w9.cell? ⟨gb361, 4, none⟩ = some (.int .i64 a0_4) := (blk_cell BK361.out 4).trans rfl; have hcz11_5 : w9.cell? ⟨gb361, 5, none⟩ = some (.string a0_5) := (blk_cell BK361.out 5).trans rfl; have hfz11_0 := blk_frozen BK361.out 0; have hfz11_1 := blk_frozen BK361.out 1; have hfz11_2 := blk_frozen BK361.out 2; have hfz11_3 := blk_frozen BK361.out 3; have hfz11_4 := blk_frozen BK361.out 4; have hfz11_5 := blk_frozen BK361.out 5; have hcz12_0 : w9.cell? ⟨gb362, 0, none⟩ = some (.int .i64 a1_0) := (blk_cell BK362.out 0).trans rfl; have hcz12_1 : w9.cell? ⟨gb362, 1, none⟩ = some (.int .i64 a1_1) := (blk_cell BK362.out 1).trans rfl; have hcz12_2 : w9.cell? ⟨gb362, 2, none⟩ = some (.string a1_2) := (blk_cell BK362.out 2).trans rfl; have hcz12_3 : w9.cell? ⟨gb362, 3, none⟩ = some (.int .i64 a1_3) := (blk_cell BK362.out 3).trans rfl; have hcz12_4 : w9.cell? ⟨gb362, 4, none⟩ = some (.int .i64 a1_4) := (blk_cell BK362.out 4).trans rfl; have hcz12_5 : w9.cell? ⟨gb362, 5, none⟩ = some (.string a1_5) := (blk_cell BK362.out 5).trans rfl; have hfz12_0 := blk_frozen BK362.out 0; have hfz12_1 := blk_frozen BK362.out 1; have hfz12_2 := blk_frozen BK362.out 2; have hfz12_3 := blk_frozen BK362.out 3; have hfz12_4 := blk_frozen BK362.out 4; have hfz12_5 := blk_frozen BK362.out 5) | ((with_reducible refine gate_callee (f := 106) rfl ?_); refine goesL_ (some 24) rfl rfl Try.func106 (by kernel_rfl) rfl #[.agg #[.int .i64 a0_3, .int .i64 a0_4, .string a0_5], .agg #[.int .i64 a1_3, .int .i64 a1_4, .string a1_5]] rfl (by (try simp only [List.map_toArray, List.map_cons, List.map_nil]); first | done | rfl | (simp only [List.length_drop, List.length_take]; rfl)) ?_; (with_reducible refine (laws_eqValue.calls a0_3 a0_4 a0_5 a1_3 a1_4 a1_5 true _ A6.out).mono ?_); rintro e w13 ⟨rfl, hb⟩; refine ⟨_, rfl, ?_⟩; have n0_ := Aside0.mk (blk_below (g := gb361) (o := .cells #[.int .i64 a0_0, .int .i64 a0_1, .string a0_2, .int .i64 a0_3, .int .i64 a0_4, .string a0_5] 120 (0, 0)) (by (with_reducible repeat (first | refine blk_drewN ?_ _ | refine blk_drew ?_ | refine blk_alloc ?_ _)); exact BK361.out) hb); have n1_ := Aside0.mk (blk_below (g := gb362) (o := .cells #[.int .i64 a1_0, .int .i64 a1_1, .string a1_2, .int .i64 a1_3, .int .i64 a1_4, .string a1_5] 120 (0, 0)) (by (with_reducible repeat (first | refine blk_drewN ?_ _ | refine blk_drew ?_ | refine blk_alloc ?_ _)); exact BK362.out) hb); have n2_ := Aside0.mk (below_step (by repeat (first | (with_reducible first | exact HB.out | apply below_alloc | apply pw_below_drewN | apply below_drew1 | refine below_set ?_ GE361.out | refine below_set ?_ GE362.out) | exact HB.out)) hb); clear BK361; clear BK362; clear HB; have BK361 := n0_; have BK362 := n1_; have HB := n2_; clear n0_ n1_ n2_; (try clear hb); (try clear hb2); (try clear hk); (try clear hi)))
          go_ret
          exact ⟨by first | rfl | (simp [errW_none, errW_some] <;> rfl) | (simp [*, errW_none, errW_some] <;> rfl), by repeat (first | (with_reducible first | exact HB.out | apply below_alloc | apply pw_below_drewN | apply below_drew1 | refine below_set ?_ GE361.out | refine below_set ?_ GE362.out) | exact HB.out)⟩
        · replace c7 := Bool.eq_false_iff.mpr c7
          subst c7
          have H1 : (some false) = some true := by first | (rw [if_neg (show ¬ (false = true) by decide)] at H; exact H) | rfl
          clear H
          have H := H1
          clear H1
          exact absurd (Option.some.inj H) (by decide)
      · rw [if_neg c5] at H
        have c5b0 : (a0_2.toList == a1_2.toList) = false := beq_eq_false_iff_ne.mpr c5
        have c5b1 : (a0_2.toList != a1_2.toList) = true := bne_iff_ne.mpr c5
        exact absurd (Option.some.inj H) (by decide)
    · rw [if_neg c4] at H
      have c4b0 : (a0_1 == a1_1) = false := beq_eq_false_iff_ne.mpr c4
      have c4b1 : (a0_1 != a1_1) = true := bne_iff_ne.mpr c4
      exact absurd (Option.some.inj H) (by decide)
  · rw [if_neg c3] at H
    have c3b0 : (a0_0 == a1_0) = false := beq_eq_false_iff_ne.mpr c3
    have c3b1 : (a0_0 != a1_0) = true := bne_iff_ne.mpr c3
    exact absurd (Option.some.inj H) (by decide)
def laws_eqTermS.l0 : Nat → List (S120) → List (S120) → Int → Option (Bool)
  | 0, _, _, _ => none
  | k + 1, x0, x1, x5 => if x5 < (x0.length : Int) then (if 0 ≤ x5 then (if x5 < (x1.length : Int) then ((laws_eqTerm.f ((rd_T120 x0 x5).f0) ((rd_T120 x0 x5).f1) ((rd_T120 x0 x5).f2) ((rd_T120 x0 x5).f3.f0) ((rd_T120 x0 x5).f3.f1) ((rd_T120 x0 x5).f3.f2) ((rd_T120 x1 x5).f0) ((rd_T120 x1 x5).f1) ((rd_T120 x1 x5).f2) ((rd_T120 x1 x5).f3.f0) ((rd_T120 x1 x5).f3.f1) ((rd_T120 x1 x5).f3.f2)).bind fun t366 => (if t366 = true then (laws_eqTermS.l0 k x0 x1 (wrap64 (x5 + 1))) else (some false))) else (none)) else (none)) else (some true)
def laws_eqTermS.f (k : Nat) (l0 : List (S120)) (l1 : List (S120)) : Option (Bool) := if (l0.length : Int) = (l1.length : Int) then (laws_eqTermS.l0 k l0 l1 0) else (some false)
theorem laws_eqTermS.mono_l : ∀ k, (∀ y0 y1 y2, LeO (laws_eqTermS.l0 k y0 y1 y2) (laws_eqTermS.l0 (k + 1) y0 y1 y2))
  | 0 => fun _ _ _ r h => by simp [laws_eqTermS.l0] at h
  | k + 1 => by
    have ih0 := laws_eqTermS.mono_l k
    · intro y0 y1 y2
      unfold laws_eqTermS.l0
      repeat' first
      | (with_reducible exact ih0 _ _ _)
      | (with_reducible exact LeO.refl _)
      | (with_reducible exact LeO.none _)
      | (with_reducible refine LeO.ite ?_ ?_)
      | (with_reducible refine LeO.bind ?_ (fun _ => ?_))
      | exact ih0 _ _ _
      | exact LeO.none _
      | refine LeO.ite ?_ ?_
      | refine LeO.bind ?_ (fun _ => ?_)
theorem laws_eqTermS.mono : ∀ a0 a1 k, LeO (laws_eqTermS.f k a0 a1) (laws_eqTermS.f (k + 1) a0 a1) := by
  intro a0 a1 k
  have ih0 := laws_eqTermS.mono_l k
  unfold laws_eqTermS.f
  repeat' first
      | (with_reducible exact ih0 _ _ _)
      | (with_reducible exact LeO.refl _)
      | (with_reducible exact LeO.none _)
      | (with_reducible refine LeO.ite ?_ ?_)
      | (with_reducible refine LeO.bind ?_ (fun _ => ?_))
      | exact ih0 _ _ _
      | exact LeO.none _
      | refine LeO.ite ?_ ?_
      | refine LeO.bind ?_ (fun _ => ?_)
def laws_eqTermS.T6 : Bool × List (List Nat × List Nat) := (true, [([], []), ([], []), ([0, 1], [0, 1]), ([2], [2]), ([], []), ([], []), ([4, 5], [4, 5]), ([6], [6]), ([3, 7], [3, 7]), ([8], [8])])
def laws_eqTermS.B6 : List Nat := [0, 0, 3, 7, 0, 0, 48, 112, 255, 511]
theorem laws_eqTermS.tab6 : rtab .any (opsOf Try.f75 6) = laws_eqTermS.T6 := by kernel_rfl
theorem laws_eqTermS.bits6 : waitsOk laws_eqTermS.T6.2 laws_eqTermS.B6 = true := by kernel_rfl
set_option maxHeartbeats 8000000 in
set_option maxRecDepth 100000 in
theorem laws_eqTermS.calls (k : Nat) (A0 : Option Addr) (c0 : Nat) (l0 : List (S120)) (A1 : Option Addr) (c1 : Nat) (l1 : List (S120)) (r : Bool) (w : World) (hr0 : Kd.C k120 w A0 l0.length l0) (hc0 : l0.length ≤ c0) (hr1 : Kd.C k120 w A1 l1.length l1) (hc1 : l1.length ≤ c1) (h : laws_eqTermS.f k l0 l1 = some r) (hT_ : r = true := by first | rfl | assumption) :
    Calls Try.prog 75 #[.slice A0 l0.length c0, .slice A1 l1.length c1] w fun e w' => e = .returned (.bool r) ∧ Below w.heap.size w w' := by
  subst hT_
  have hu120 := Try.underlying120
  have HR0 := Aside0.mk hr0
  have HC0 := Aside0.mk hc0
  clear hr0 hc0
  have HR1 := Aside0.mk hr1
  have HC1 := Aside0.mk hc1
  clear hr1 hc1
  have HB := Aside0.mk (Below.refl w.heap.size w)
  have H : (if (l0.length : Int) = (l1.length : Int) then (laws_eqTermS.l0 k l0 l1 0) else (some false)) = some true := h
  clear h
  by_cases c3 : (l0.length : Int) = (l1.length : Int)
  · rw [if_pos c3] at H
    have c3b0 : ((l0.length : Int) == (l1.length : Int)) = true := beq_iff_eq.mpr c3
    have c3b1 : ((l0.length : Int) != (l1.length : Int)) = false := bne_eq_false_iff_eq.mpr c3
    have c3b2 : (l0.length == l1.length) = true := by first | simpa using c3 | (simp at c3 ⊢; omega)
    clear c3
    have H' := Aside0.mk H
    clear H
    go_enter Try.func75, Try.ntmps75
    go_wp2
    go_loopg [5] k (fun kq v5 w' => ∃ (x5_1 : Int), v5 = .int .i64 x5_1 ∧ Aside0 (laws_eqTermS.l0 kq l0 l1 x5_1 = some true) ∧ Aside0 (kq ≤ k) ∧ Aside0 (Below w.heap.size w w'))
    case atStart => exact ⟨(0), (by first | rfl | (simp; done) | (simp [*]; done)), H', ⟨Nat.le_refl _⟩, ⟨by repeat (first | (with_reducible first | exact HB.out | apply below_alloc | apply pw_below_drewN | apply below_drew1) | exact HB.out)⟩⟩
    case round =>
      clear H'
      try clear c1
      try clear p2
      try clear c3
      try clear c3b0
      try clear c3b1
      try clear c3b2
      obtain ⟨x5_1, rfl, HA, HK1, HB⟩ := hrel
      cases gk with
      | zero => exact absurd HA.out (by simp [laws_eqTermS.l0])
      | succ k1 =>
        have H := HA.out
        clear HA
        simp only [laws_eqTermS.l0] at H
        by_cases c4 : x5_1 < (l0.length : Int)
        · rw [if_pos c4] at H
          have c4b0 : decide (x5_1 < (l0.length : Int)) = true := decide_eq_true c4
          clear c4
          by_cases c5 : 0 ≤ x5_1
          · rw [if_pos c5] at H
            have c5b0 : decide (0 ≤ x5_1) = true := decide_eq_true c5
            clear c5
            by_cases c6 : x5_1 < (l1.length : Int)
            · rw [if_pos c6] at H
              have c6b0 : decide (x5_1 < (l1.length : Int)) = true := decide_eq_true c6
              clear c6
              replace H := Option.bind_eq_some_iff.mp H
              obtain ⟨t366, A70, H⟩ := H
              replace H : (if t366 = true then (laws_eqTermS.l0 k1 l0 l1 (wrap64 (x5_1 + 1))) else (some false)) = some true := H
              have A7 := Aside0.mk A70
              clear A70
              by_cases c8 : t366 = true
              · subst c8
                have H1 : (laws_eqTermS.l0 k1 l0 l1 (wrap64 (x5_1 + 1))) = some true := by first | (rw [if_pos rfl] at H; exact H) | rfl
                clear H
                have H := H1
                clear H1
                have H' := Aside0.mk H
                clear H
                try go_wp2
                have n0_ := Aside0.mk (below_drew1 HB.out)
                clear HB
                have HB := n0_
                clear n0_
                have p364 : 0 ≤ (x5_1 : Int) := of_decide_eq_true (by first | (with_reducible assumption) | assumption)
                have q364 : x5_1 < (l0.length : Int) := of_decide_eq_true (by first | (with_reducible assumption) | assumption)
                obtain ⟨ad364, e364, hx364_0, hx364_1, hx364_2, hx364_3, hx364_4, hx364_5⟩ := at_T120 HR0.out x5_1 p364 q364
                have hw364_5 := hx364_5
                have hw364_4 := hx364_4
                have hw364_3 := hx364_3
                have hw364_2 := hx364_2
                have hw364_1 := hx364_1
                have hw364_0 := hx364_0
                cases e364
                replace hx364_0 := (HB.out.cell (World.block_lt_of_cell? w _ hx364_0)).trans hx364_0
                replace hx364_1 := (HB.out.cell (World.block_lt_of_cell? w _ hx364_1)).trans hx364_1
                replace hx364_2 := (HB.out.cell (World.block_lt_of_cell? w _ hx364_2)).trans hx364_2
                replace hx364_3 := (HB.out.cell (World.block_lt_of_cell? w _ hx364_3)).trans hx364_3
                replace hx364_4 := (HB.out.cell (World.block_lt_of_cell? w _ hx364_4)).trans hx364_4
                replace hx364_5 := (HB.out.cell (World.block_lt_of_cell? w _ hx364_5)).trans hx364_5
                replace p364 := eq_true p364
                replace q364 := eq_true q364
                have p365 : 0 ≤ (x5_1 : Int) := of_decide_eq_true (by first | (with_reducible assumption) | assumption)
                have q365 : x5_1 < (l1.length : Int) := of_decide_eq_true (by first | (with_reducible assumption) | assumption)
                obtain ⟨ad365, e365, hx365_0, hx365_1, hx365_2, hx365_3, hx365_4, hx365_5⟩ := at_T120 HR1.out x5_1 p365 q365
                have hw365_5 := hx365_5
                have hw365_4 := hx365_4
                have hw365_3 := hx365_3
                have hw365_2 := hx365_2
                have hw365_1 := hx365_1
                have hw365_0 := hx365_0
                cases e365
                replace hx365_0 := (HB.out.cell (World.block_lt_of_cell? w _ hx365_0)).trans hx365_0
                replace hx365_1 := (HB.out.cell (World.block_lt_of_cell? w _ hx365_1)).trans hx365_1
                replace hx365_2 := (HB.out.cell (World.block_lt_of_cell? w _ hx365_2)).trans hx365_2
                replace hx365_3 := (HB.out.cell (World.block_lt_of_cell? w _ hx365_3)).trans hx365_3
                replace hx365_4 := (HB.out.cell (World.block_lt_of_cell? w _ hx365_4)).trans hx365_4
                replace hx365_5 := (HB.out.cell (World.block_lt_of_cell? w _ hx365_5)).trans hx365_5
                replace p365 := eq_true p365
                replace q365 := eq_true q365
                refine start_ (n := 10) (S := fun w' => w'.cell? (ad364.add ((x5_1).toNat * 6)) = some (.int .i64 ((rd_T120 l0 x5_1).f0)) ∧ w'.cell? ⟨(ad364.add ((x5_1).toNat * 6)).block, (ad364.add ((x5_1).toNat * 6)).off + 1, none⟩ = some (.int .i64 ((rd_T120 l0 x5_1).f1)) ∧ w'.cell? ⟨(ad364.add ((x5_1).toNat * 6)).block, (ad364.add ((x5_1).toNat * 6)).off + 2, none⟩ = some (.string ((rd_T120 l0 x5_1).f2)) ∧ w'.cell? ⟨(ad364.add ((x5_1).toNat * 6)).block, (ad364.add ((x5_1).toNat * 6)).off + 3, none⟩ = some (.int .i64 ((rd_T120 l0 x5_1).f3.f0)) ∧ w'.cell? ⟨(ad364.add ((x5_1).toNat * 6)).block, (ad364.add ((x5_1).toNat * 6)).off + 4, none⟩ = some (.int .i64 ((rd_T120 l0 x5_1).f3.f1)) ∧ w'.cell? ⟨(ad364.add ((x5_1).toNat * 6)).block, (ad364.add ((x5_1).toNat * 6)).off + 5, none⟩ = some (.string ((rd_T120 l0 x5_1).f3.f2)) ∧ w'.cell? (ad365.add ((x5_1).toNat * 6)) = some (.int .i64 ((rd_T120 l1 x5_1).f0)) ∧ w'.cell? ⟨(ad365.add ((x5_1).toNat * 6)).block, (ad365.add ((x5_1).toNat * 6)).off + 1, none⟩ = some (.int .i64 ((rd_T120 l1 x5_1).f1)) ∧ w'.cell? ⟨(ad365.add ((x5_1).toNat * 6)).block, (ad365.add ((x5_1).toNat * 6)).off + 2, none⟩ = some (.string ((rd_T120 l1 x5_1).f2)) ∧ w'.cell? ⟨(ad365.add ((x5_1).toNat * 6)).block, (ad365.add ((x5_1).toNat * 6)).off + 3, none⟩ = some (.int .i64 ((rd_T120 l1 x5_1).f3.f0)) ∧ w'.cell? ⟨(ad365.add ((x5_1).toNat * 6)).block, (ad365.add ((x5_1).toNat * 6)).off + 4, none⟩ = some (.int .i64 ((rd_T120 l1 x5_1).f3.f1)) ∧ w'.cell? ⟨(ad365.add ((x5_1).toNat * 6)).block, (ad365.add ((x5_1).toNat * 6)).off + 5, none⟩ = some (.string ((rd_T120 l1 x5_1).f3.f2))) (ds := []) #[false, false, false, false, false, false, false, false, false, false] (by kernel_rfl) rfl rfl ⟨((HB.out.cell (World.block_lt_of_cell? w _ hw364_0)).trans hw364_0), ((HB.out.cell (World.block_lt_of_cell? w _ hw364_1)).trans hw364_1), ((HB.out.cell (World.block_lt_of_cell? w _ hw364_2)).trans hw364_2), ((HB.out.cell (World.block_lt_of_cell? w _ hw364_3)).trans hw364_3), ((HB.out.cell (World.block_lt_of_cell? w _ hw364_4)).trans hw364_4), ((HB.out.cell (World.block_lt_of_cell? w _ hw364_5)).trans hw364_5), ((HB.out.cell (World.block_lt_of_cell? w _ hw365_0)).trans hw365_0), ((HB.out.cell (World.block_lt_of_cell? w _ hw365_1)).trans hw365_1), ((HB.out.cell (World.block_lt_of_cell? w _ hw365_2)).trans hw365_2), ((HB.out.cell (World.block_lt_of_cell? w _ hw365_3)).trans hw365_3), ((HB.out.cell (World.block_lt_of_cell? w _ hw365_4)).trans hw365_4), ((HB.out.cell (World.block_lt_of_cell? w _ hw365_5)).trans hw365_5)⟩ (fun hHeld => ?_); refine with_tabW laws_eqTermS.tab6 laws_eqTermS.bits6 (fun HT_ HW_ => ?_)
                generalize wr.drew = w9 at HB hx364_0 hx364_1 hx364_2 hx364_3 hx364_4 hx364_5 hx365_0 hx365_1 hx365_2 hx365_3 hx365_4 hx365_5 hHeld ⊢
                refine pure_ (i := 0) (N := some 17) (v := ?_) (a' := ?_) #[true, false, false, false, false, false, false, false, false, false] rfl rfl (any_of HT_.out (by kernel_rfl)) (fun _ _ _ h => h) (Or.inl ⟨by rfl, ?_⟩) ?_ ?_
                rotate_left
                · intro w'
                  go_simp
                  with_reducible rfl
                rotate_left
                · simp only [Act.put, List.setIfInBounds_toArray, List.set_cons_zero, List.set_cons_succ, i64_w, i32_w]
                  rfl
                refine pure_ (i := 1) (N := some 18) (v := ?_) (a' := ?_) #[true, true, false, false, false, false, false, false, false, false] rfl rfl (any_of HT_.out (by kernel_rfl)) (fun _ _ _ h => h) (Or.inl ⟨by rfl, ?_⟩) ?_ ?_
                rotate_left
                · intro w'
                  go_simp
                  with_reducible rfl
                rotate_left
                · simp only [Act.put, List.setIfInBounds_toArray, List.set_cons_zero, List.set_cons_succ, i64_w, i32_w]
                  rfl
                refine pure_ (i := 2) (N := some 19) (v := ?_) (a' := ?_) #[true, true, true, false, false, false, false, false, false, false] rfl rfl (any_of HT_.out (by kernel_rfl)) (fun _ _ _ h => h) (Or.inl ⟨by rfl, ?_⟩) ?_ ?_
                rotate_left
                · intro w'
                  go_simp
                  with_reducible rfl
                rotate_left
                · simp only [Act.put, List.setIfInBounds_toArray, List.set_cons_zero, List.set_cons_succ, i64_w, i32_w]
                  rfl
                refine pure_ (i := 4) (N := some 21) (v := ?_) (a' := ?_) #[true, true, true, false, true, false, false, false, false, false] rfl rfl (any_of HT_.out (by kernel_rfl)) (fun _ _ _ h => h) (Or.inl ⟨by rfl, ?_⟩) ?_ ?_
                rotate_left
                · intro w'
                  go_simp
                  with_reducible rfl
                rotate_left
                · simp only [Act.put, List.setIfInBounds_toArray, List.set_cons_zero, List.set_cons_succ, i64_w, i32_w]
                  rfl
                refine pure_ (i := 5) (N := some 22) (v := ?_) (a' := ?_) #[true, true, true, false, true, true, false, false, false, false] rfl rfl (any_of HT_.out (by kernel_rfl)) (fun _ _ _ h => h) (Or.inl ⟨by rfl, ?_⟩) ?_ ?_
                rotate_left
                · intro w'
                  go_simp
                  with_reducible rfl
                rotate_left
                · simp only [Act.put, List.setIfInBounds_toArray, List.set_cons_zero, List.set_cons_succ, i64_w, i32_w]
                  rfl
                refine pure_ (i := 6) (N := some 23) (v := ?_) (a' := ?_) #[true, true, true, false, true, true, true, false, false, false] rfl rfl (any_of HT_.out (by kernel_rfl)) (fun _ _ _ h => h) (Or.inl ⟨by rfl, ?_⟩) ?_ ?_
                rotate_left
                · intro w'
                  go_simp
                  with_reducible rfl
                rotate_left
                · simp only [Act.put, List.setIfInBounds_toArray, List.set_cons_zero, List.set_cons_succ, i64_w, i32_w]
                  rfl
                refine take_ (i := 3) (N := some 20) (v := ?_) (a' := ?_) #[true, true, true, true, true, true, true, false, false, false] rfl rfl (take_ofW HT_.out HW_.out (by kernel_rfl)) (fun _ _ _ h => h) (Or.inl ⟨by rfl, ?_⟩) hHeld ?_ ?_
                rotate_left
                · rintro w' ⟨s0, s1, s2, s3, s4, s5, s6, s7, s8, s9, s10, s11⟩
                  go_simp
                  with_reducible rfl
                rotate_left
                · simp only [Act.put, List.setIfInBounds_toArray, List.set_cons_zero, List.set_cons_succ, i64_w, i32_w]
                  rfl
                refine take_ (i := 7) (N := some 24) (v := ?_) (a' := ?_) #[true, true, true, true, true, true, true, true, false, false] rfl rfl (take_ofW HT_.out HW_.out (by kernel_rfl)) (fun _ _ _ h => h) (Or.inl ⟨by rfl, ?_⟩) hHeld ?_ ?_
                rotate_left
                · rintro w' ⟨s0, s1, s2, s3, s4, s5, s6, s7, s8, s9, s10, s11⟩
                  go_simp
                  with_reducible rfl
                rotate_left
                · simp only [Act.put, List.setIfInBounds_toArray, List.set_cons_zero, List.set_cons_succ, i64_w, i32_w]
                  rfl
                refine one_ (i := 8) (N := some 25) #[true, true, true, true, true, true, true, true, true, false] rfl rfl (one_of HT_.out (by kernel_rfl)) (by decide) (fun K hK => ?_)
                refine goes_ Try.func120 (by kernel_rfl) rfl #[.agg #[.int .i64 ((rd_T120 l0 x5_1).f0), .int .i64 ((rd_T120 l0 x5_1).f1), .string ((rd_T120 l0 x5_1).f2), .int .i64 ((rd_T120 l0 x5_1).f3.f0), .int .i64 ((rd_T120 l0 x5_1).f3.f1), .string ((rd_T120 l0 x5_1).f3.f2)], .agg #[.int .i64 ((rd_T120 l1 x5_1).f0), .int .i64 ((rd_T120 l1 x5_1).f1), .string ((rd_T120 l1 x5_1).f2), .int .i64 ((rd_T120 l1 x5_1).f3.f0), .int .i64 ((rd_T120 l1 x5_1).f3.f1), .string ((rd_T120 l1 x5_1).f3.f2)]] (by rfl) rfl rfl (by (try simp only [List.map_toArray, List.map_cons, List.map_nil]); first | done | rfl | (simp only [List.length_drop, List.length_take]; rfl)) ?_
                with_reducible refine (laws_eqTerm.calls ((rd_T120 l0 x5_1).f0) ((rd_T120 l0 x5_1).f1) ((rd_T120 l0 x5_1).f2) ((rd_T120 l0 x5_1).f3.f0) ((rd_T120 l0 x5_1).f3.f1) ((rd_T120 l0 x5_1).f3.f2) ((rd_T120 l1 x5_1).f0) ((rd_T120 l1 x5_1).f1) ((rd_T120 l1 x5_1).f2) ((rd_T120 l1 x5_1).f3.f0) ((rd_T120 l1 x5_1).f3.f1) ((rd_T120 l1 x5_1).f3.f2) true _ A7.out).mono ?_
                rintro e w10 ⟨rfl, hb⟩
                refine ⟨_, rfl, ?_⟩
                have n0_ := Aside0.mk (below_step (by repeat (first | (with_reducible first | exact HB.out | apply below_alloc | apply pw_below_drewN | apply below_drew1) | exact HB.out)) hb)
                clear HB
                have HB := n0_
                clear n0_
                (try clear hb)
                (try clear hb2)
                (try clear hk)
                (try clear hi)
                refine hK.out _ _ ⟨((HB.out.cell (World.block_lt_of_cell? w _ hw364_0)).trans hw364_0), ((HB.out.cell (World.block_lt_of_cell? w _ hw364_1)).trans hw364_1), ((HB.out.cell (World.block_lt_of_cell? w _ hw364_2)).trans hw364_2), ((HB.out.cell (World.block_lt_of_cell? w _ hw364_3)).trans hw364_3), ((HB.out.cell (World.block_lt_of_cell? w _ hw364_4)).trans hw364_4), ((HB.out.cell (World.block_lt_of_cell? w _ hw364_5)).trans hw364_5), ((HB.out.cell (World.block_lt_of_cell? w _ hw365_0)).trans hw365_0), ((HB.out.cell (World.block_lt_of_cell? w _ hw365_1)).trans hw365_1), ((HB.out.cell (World.block_lt_of_cell? w _ hw365_2)).trans hw365_2), ((HB.out.cell (World.block_lt_of_cell? w _ hw365_3)).trans hw365_3), ((HB.out.cell (World.block_lt_of_cell? w _ hw365_4)).trans hw365_4), ((HB.out.cell (World.block_lt_of_cell? w _ hw365_5)).trans hw365_5)⟩ (fun hHeld => ?_)
                clear hK K
                refine norm_ (a' := ?_) ?_ ?_
                rotate_left
                · show Act.put _ (some 25) _ = _
                  simp only [Act.put, List.setIfInBounds_toArray, List.set_cons_zero, List.set_cons_succ, i64_w, i32_w]
                  rfl
                refine pure_ (i := 9) (N := some 26) (v := ?_) (a' := ?_) #[true, true, true, true, true, true, true, true, true, true] rfl rfl (any_of HT_.out (by kernel_rfl)) (fun _ _ _ h => h) (Or.inl ⟨by rfl, ?_⟩) ?_ ?_
                rotate_left
                · intro w'
                  go_simp
                  with_reducible rfl
                rotate_left
                · simp only [Act.put, List.setIfInBounds_toArray, List.set_cons_zero, List.set_cons_succ, i64_w, i32_w]
                  rfl
                refine done_ (done_of HT_.out (by kernel_rfl)) ?_
                try go_wp2
                go_roundg k1
                case measure => have := HK1.out; omega
                case rel => exact ⟨(wrap64 (x5_1 + 1)), (by first | rfl | (simp; done) | (simp [*]; done)), H', ⟨by have := HK1.out; omega⟩, ⟨by repeat (first | (with_reducible first | exact HB.out | apply below_alloc | apply pw_below_drewN | apply below_drew1) | exact HB.out)⟩⟩
              · replace c8 := Bool.eq_false_iff.mpr c8
                subst c8
                have H1 : (some false) = some true := by first | (rw [if_neg (show ¬ (false = true) by decide)] at H; exact H) | rfl
                clear H
                have H := H1
                clear H1
                exact absurd (Option.some.inj H) (by decide)
            · rw [if_neg c6] at H
              exact absurd H (by simp)
          · rw [if_neg c5] at H
            exact absurd H (by simp)
        · rw [if_neg c4] at H
          have c4b0 : decide (x5_1 < (l0.length : Int)) = false := decide_eq_false c4
          clear c4
          clear H
          go_wp2
          go_ret
          exact ⟨by first | rfl | (simp [errW_none, errW_some] <;> rfl) | (simp [*, errW_none, errW_some] <;> rfl), by repeat (first | (with_reducible first | exact HB.out | apply below_alloc | apply pw_below_drewN | apply below_drew1) | exact HB.out)⟩
  · rw [if_neg c3] at H
    have c3b0 : ((l0.length : Int) == (l1.length : Int)) = false := beq_eq_false_iff_ne.mpr c3
    have c3b1 : ((l0.length : Int) != (l1.length : Int)) = true := bne_iff_ne.mpr c3
    have c3b2 : (l0.length == l1.length) = false := by first | simpa using c3 | (simp at c3 ⊢; omega)
    exact absurd (Option.some.inj H) (by decide)
def laws_eqPattern.f (k : Nat) (a0_0 : Bool) (a0_1 : ByteArray) (l0_2 : List (S120)) (a1_0 : Bool) (a1_1 : ByteArray) (l1_2 : List (S120)) : Option (Bool) := if (a0_0 != a1_0) = true then (some false) else (if a0_1.toList = a1_1.toList then ((laws_eqTermS.f k l0_2 l1_2).bind fun t369 => (if t369 = true then (some true) else (some false))) else (some false))
theorem laws_eqPattern.mono : ∀ a0 a1 a2 a3 a4 a5 k, LeO (laws_eqPattern.f k a0 a1 a2 a3 a4 a5) (laws_eqPattern.f (k + 1) a0 a1 a2 a3 a4 a5) := by
  intro a0 a1 a2 a3 a4 a5 k
  unfold laws_eqPattern.f
  repeat' first
      | (with_reducible exact laws_eqTermS.mono _ _ _)
      | (with_reducible exact LeO.refl _)
      | (with_reducible exact LeO.none _)
      | (with_reducible refine LeO.ite ?_ ?_)
      | (with_reducible refine LeO.bind ?_ (fun _ => ?_))
      | exact laws_eqTermS.mono _ _ _
      | exact LeO.none _
      | refine LeO.ite ?_ ?_
      | refine LeO.bind ?_ (fun _ => ?_)
set_option maxHeartbeats 8000000 in
set_option maxRecDepth 100000 in
theorem laws_eqPattern.calls (k : Nat) (a0_0 : Bool) (a0_1 : ByteArray) (A0_2 : Option Addr) (c0_2 : Nat) (l0_2 : List (S120)) (a1_0 : Bool) (a1_1 : ByteArray) (A1_2 : Option Addr) (c1_2 : Nat) (l1_2 : List (S120)) (r : Bool) (w : World) (hr0_2 : Kd.C k120 w A0_2 l0_2.length l0_2) (hc0_2 : l0_2.length ≤ c0_2) (hr1_2 : Kd.C k120 w A1_2 l1_2.length l1_2) (hc1_2 : l1_2.length ≤ c1_2) (h : laws_eqPattern.f k a0_0 a0_1 l0_2 a1_0 a1_1 l1_2 = some r) (hT_ : r = true := by first | rfl | assumption) :
    Calls Try.prog 27 #[.agg #[.bool a0_0, .string a0_1, .slice A0_2 l0_2.length c0_2], .agg #[.bool a1_0, .string a1_1, .slice A1_2 l1_2.length c1_2]] w fun e w' => e = .returned (.bool r) ∧ Below w.heap.size w w' := by
  subst hT_
  have hu61 := Try.underlying61
  have HR0_2 := Aside0.mk hr0_2
  have HC0_2 := Aside0.mk hc0_2
  clear hr0_2 hc0_2
  have HR1_2 := Aside0.mk hr1_2
  have HC1_2 := Aside0.mk hc1_2
  clear hr1_2 hc1_2
  have HB := Aside0.mk (Below.refl w.heap.size w)
  have H : (if (a0_0 != a1_0) = true then (some false) else (if a0_1.toList = a1_1.toList then ((laws_eqTermS.f k l0_2 l1_2).bind fun t369 => (if t369 = true then (some true) else (some false))) else (some false))) = some true := h
  clear h
  by_cases c3 : (a0_0 != a1_0) = true
  · rw [if_pos c3] at H
    have c3b0 : (a0_0 != a1_0) = true := c3
    (try (have c3b1 : decide (a0_0 = a1_0) = false := by simpa using c3))
    (try (have c3b2 : (a0_0 == a1_0) = false := by simpa using c3))
    (try (have c3b3 : ¬ (a0_0 = a1_0) := by simpa using c3))
    clear c3
    exact absurd (Option.some.inj H) (by decide)
  · rw [if_neg c3] at H
    have c3b0 : (a0_0 != a1_0) = false := by simpa using c3
    (try (have c3b1 : decide (a0_0 = a1_0) = true := by simpa using c3))
    (try (have c3b2 : (a0_0 == a1_0) = true := by simpa using c3))
    clear c3
    by_cases c4 : a0_1.toList = a1_1.toList
    · rw [if_pos c4] at H
      have c4b0 : (a0_1.toList == a1_1.toList) = true := beq_iff_eq.mpr c4
      have c4b1 : (a0_1.toList != a1_1.toList) = false := bne_eq_false_iff_eq.mpr c4
      clear c4
      replace H := Option.bind_eq_some_iff.mp H
      obtain ⟨t369, A50, H⟩ := H
      replace H : (if t369 = true then (some true) else (some false)) = some true := H
      have A5 := Aside0.mk A50
      clear A50
      by_cases c6 : t369 = true
      · subst c6
        have H1 : (some true) = some true := by first | (rw [if_pos rfl] at H; exact H) | rfl
        clear H
        have H := H1
        clear H1
        clear H
        go_enter Try.func27, Try.ntmps27
        go_wp2_with (first | ((with_reducible refine gate_dst (N := 2) rfl ?_); refine box_event ?hg (N := 2) ?hd (cs := #[.bool a0_0, .string a0_1, .slice A0_2 l0_2.length c0_2]) (t := 61) ?hr ?_; (case hd => rfl); (case hg => rfl); (case hr => first | (go_simp; done) | (go_simp; rfl)); intro gb367 hg w7 hbox hb; have n0_ := Aside0.mk (below_step (by repeat (first | (with_reducible first | exact HB.out | apply below_alloc | apply pw_below_drewN | apply below_drew1) | exact HB.out)) hb); have n1_ := Aside0.mk (hbox); have n2_ := Aside0.mk ((by rw [hg]; exact (below_size (by repeat (first | (with_reducible first | exact HB.out | apply below_alloc | apply pw_below_drewN | apply below_drew1) | exact HB.out))) : w.heap.size ≤ gb367)); have n3_ := Aside0.mk ((by rw [hg]; exact (below_size (by repeat (first | (with_reducible first | exact HB.out | apply below_alloc | apply pw_below_drewN | apply below_drew1) | exact HB.out))) : w.heap.size ≤ gb367)); clear HB; have HB := n0_; have BK367 := n1_; have GW367 := n2_; have GE367 := n3_; clear n0_ n1_ n2_ n3_; clear hb hbox hg) | ((with_reducible refine gate_dst (N := 3) rfl ?_); refine box_event ?hg (N := 3) ?hd (cs := #[.bool a1_0, .string a1_1, .slice A1_2 l1_2.length c1_2]) (t := 61) ?hr ?_; (case hd => rfl); (case hg => rfl); (case hr => first | (go_simp; done) | (go_simp; rfl)); intro gb368 hg w8 hbox hb; have n0_ := Aside0.mk (blk_below (g := gb367) (o := .cells #[.bool a0_0, .string a0_1, .slice A0_2 l0_2.length c0_2] 61 (0, 0)) (by (with_reducible repeat (first | refine blk_drewN ?_ _ | refine blk_drew ?_ | refine blk_alloc ?_ _)); exact BK367.out) hb); have n1_ := Aside0.mk (below_step (by repeat (first | (with_reducible first | exact HB.out | apply below_alloc | apply pw_below_drewN | apply below_drew1 | refine below_set ?_ GE367.out) | exact HB.out)) hb); have n2_ := Aside0.mk (hbox); have n3_ := Aside0.mk ((by rw [hg]; exact (below_size (by repeat (first | (with_reducible first | exact HB.out | apply below_alloc | apply pw_below_drewN | apply below_drew1 | refine below_set ?_ GE367.out) | exact HB.out))) : w.heap.size ≤ gb368)); have n4_ := Aside0.mk ((by rw [hg]; exact (below_size (by repeat (first | (with_reducible first | exact HB.out | apply below_alloc | apply pw_below_drewN | apply below_drew1 | refine below_set ?_ GE367.out) | exact HB.out))) : w.heap.size ≤ gb368)); have n5_ := Aside0.mk ((by rw [hg]; exact Nat.ne_of_lt (blk_lt (g := gb367) (o := .cells #[.bool a0_0, .string a0_1, .slice A0_2 l0_2.length c0_2] 61 (0, 0)) (by (with_reducible repeat (first | refine blk_drewN ?_ _ | refine blk_drew ?_ | refine blk_alloc ?_ _)); exact BK367.out)) : gb367 ≠ gb368)); have n6_ := Aside0.mk ((by rw [hg]; exact Nat.ne_of_gt (blk_lt (g := gb367) (o := .cells #[.bool a0_0, .string a0_1, .slice A0_2 l0_2.length c0_2] 61 (0, 0)) (by (with_reducible repeat (first | refine blk_drewN ?_ _ | refine blk_drew ?_ | refine blk_alloc ?_ _)); exact BK367.out)) : gb368 ≠ gb367)); clear BK367; clear HB; have BK367 := n0_; have HB := n1_; have BK368 := n2_; have GW368 := n3_; have GE368 := n4_; have NB367_368 := n5_; have NB368_367 := n6_; clear n0_ n1_ n2_ n3_ n4_ n5_ n6_; clear hb hbox hg; have hnb9 := NB367_368.out; have hnc9 := NB368_367.out; have hcz10_0 : w8.cell? ⟨gb367, 0, none⟩ = some (.bool a0_0) := (blk_cell BK367.out 0).trans rfl; have hcz10_1 : w8.cell? ⟨gb367, 1, none⟩ = some (.string a0_1) := (blk_cell BK367.out 1).trans rfl; have hcz10_2 : w8.cell? ⟨gb367, 2, none⟩ = some (.slice A0_2 l0_2.length c0_2) := (blk_cell BK367.out 2).trans rfl; have hfz10_0 := blk_frozen BK367.out 0; have hfz10_1 := blk_frozen BK367.out 1; have hfz10_2 := blk_frozen BK367.out 2; have hcz11_0 : w8.cell? ⟨gb368, 0, none⟩ = some (.bool a1_0) := (blk_cell BK368.out 0).trans rfl; have hcz11_1 : w8.cell? ⟨gb368, 1, none⟩ = some (.string a1_1) := (blk_cell BK368.out 1).trans rfl; have hcz11_2 : w8.cell? ⟨gb368, 2, none⟩ = some (.slice A1_2 l1_2.length c1_2) := (blk_cell BK368.out 2).trans rfl; have hfz11_0 := blk_frozen BK368.out 0; have hfz11_1 := blk_frozen BK368.out 1; have hfz11_2 := blk_frozen BK368.out 2) | ((with_reducible refine gate_callee (f := 75) rfl ?_); refine goesL_ (some 19) rfl rfl Try.func75 (by kernel_rfl) rfl #[.slice A0_2 l0_2.length c0_2, .slice A1_2 l1_2.length c1_2] rfl (by (try simp only [List.map_toArray, List.map_cons, List.map_nil]); first | done | rfl | (simp only [List.length_drop, List.length_take]; rfl)) ?_; (with_reducible refine (laws_eqTermS.calls k _ _ l0_2 _ _ l1_2 true _ ?side1 ?side2 ?side3 ?side4 A5.out).mono ?_); (case side1 => repeat (first | exact (Kd.C_below HR0_2.out HB.out) | (with_reducible refine Kd.C_alloc ?_ _) | (with_reducible refine Kd.C_drewN ?_ _) | (with_reducible refine Kd.C_drew ?_))); (case side2 => exact HC0_2.out); (case side3 => repeat (first | exact (Kd.C_below HR1_2.out HB.out) | (with_reducible refine Kd.C_alloc ?_ _) | (with_reducible refine Kd.C_drewN ?_ _) | (with_reducible refine Kd.C_drew ?_))); (case side4 => exact HC1_2.out); rintro e w12 ⟨rfl, hb⟩; refine ⟨_, rfl, ?_⟩; have n0_ := Aside0.mk (blk_below (g := gb367) (o := .cells #[.bool a0_0, .string a0_1, .slice A0_2 l0_2.length c0_2] 61 (0, 0)) (by (with_reducible repeat (first | refine blk_drewN ?_ _ | refine blk_drew ?_ | refine blk_alloc ?_ _)); exact BK367.out) hb); have n1_ := Aside0.mk (blk_below (g := gb368) (o := .cells #[.bool a1_0, .string a1_1, .slice A1_2 l1_2.length c1_2] 61 (0, 0)) (by (with_reducible repeat (first | refine blk_drewN ?_ _ | refine blk_drew ?_ | refine blk_alloc ?_ _)); exact BK368.out) hb); have n2_ := Aside0.mk (below_step (by repeat (first | (with_reducible first | exact HB.out | apply below_alloc | apply pw_below_drewN | apply below_drew1 | refine below_set ?_ GE367.out | refine below_set ?_ GE368.out) | exact HB.out)) hb); clear BK367; clear BK368; clear HB; have BK367 := n0_; have BK368 := n1_; have HB := n2_; clear n0_ n1_ n2_; (try clear hb); (try clear hb2); (try clear hk); (try clear hi)))
        go_ret
        exact ⟨by first | rfl | (simp [errW_none, errW_some] <;> rfl) | (simp [*, errW_none, errW_some] <;> rfl), by repeat (first | (with_reducible first | exact HB.out | apply below_alloc | apply pw_below_drewN | apply below_drew1 | refine below_set ?_ GE367.out | refine below_set ?_ GE368.out) | exact HB.out)⟩
      · replace c6 := Bool.eq_false_iff.mpr c6
        subst c6
        have H1 : (some false) = some true := by first | (rw [if_neg (show ¬ (false = true) by decide)] at H; exact H) | rfl
        clear H
        have H := H1
        clear H1
        exact absurd (Option.some.inj H) (by decide)
    · rw [if_neg c4] at H
      have c4b0 : (a0_1.toList == a1_1.toList) = false := beq_eq_false_iff_ne.mpr c4
      have c4b1 : (a0_1.toList != a1_1.toList) = true := bne_iff_ne.mpr c4
      exact absurd (Option.some.inj H) (by decide)
def laws_markText.l0 : Nat → Int → ByteArray → Option (ByteArray)
  | 0, _, _ => none
  | k + 1, x0, x3 => if x0 > 0 then ((some (([(wrap64 (48 + (Int.tmod x0 10))) % 256] : List Int) : List Int)).bind fun y370 => (if (strOfNums y370).size + x3.size ≤ 9223372036854775807 then (laws_markText.l0 k (wrap64 (Int.tdiv x0 10)) ((strOfNums y370) ++ x3)) else (none))) else (if 1 + x3.size ≤ 9223372036854775807 then (some ((⟨#[109]⟩ : ByteArray) ++ x3)) else (none))
def laws_markText.f (k : Nat) (a0 : Int) : Option (ByteArray) := if a0 ≤ 0 then (some (⟨#[109, 48]⟩ : ByteArray)) else (laws_markText.l0 k a0 (⟨#[]⟩ : ByteArray))
theorem laws_markText.mono_l : ∀ k, (∀ y0 y1, LeO (laws_markText.l0 k y0 y1) (laws_markText.l0 (k + 1) y0 y1))
  | 0 => fun _ _ r h => by simp [laws_markText.l0] at h
  | k + 1 => by
    have ih0 := laws_markText.mono_l k
    · intro y0 y1
      unfold laws_markText.l0
      repeat' first
      | (with_reducible exact ih0 _ _)
      | (with_reducible exact LeO.refl _)
      | (with_reducible exact LeO.none _)
      | (with_reducible refine LeO.ite ?_ ?_)
      | (with_reducible refine LeO.bind ?_ (fun _ => ?_))
      | exact ih0 _ _
      | exact LeO.none _
      | refine LeO.ite ?_ ?_
      | refine LeO.bind ?_ (fun _ => ?_)
theorem laws_markText.mono : ∀ a0 k, LeO (laws_markText.f k a0) (laws_markText.f (k + 1) a0) := by
  intro a0 k
  have ih0 := laws_markText.mono_l k
  unfold laws_markText.f
  repeat' first
      | (with_reducible exact ih0 _ _)
      | (with_reducible exact LeO.refl _)
      | (with_reducible exact LeO.none _)
      | (with_reducible refine LeO.ite ?_ ?_)
      | (with_reducible refine LeO.bind ?_ (fun _ => ?_))
      | exact ih0 _ _
      | exact LeO.none _
      | refine LeO.ite ?_ ?_
      | refine LeO.bind ?_ (fun _ => ?_)
set_option maxHeartbeats 8000000 in
set_option maxRecDepth 100000 in
theorem laws_markText.calls (k : Nat) (a0 : Int) (r : ByteArray) (w : World) (h : laws_markText.f k a0 = some r) :
    Calls Try.prog 88 #[.int .i64 a0] w fun e w' => e = .returned (.string r) ∧ Below w.heap.size w w' := by
  have HB := Aside0.mk (Below.refl w.heap.size w)
  have H : (if a0 ≤ 0 then (some (⟨#[109, 48]⟩ : ByteArray)) else (laws_markText.l0 k a0 (⟨#[]⟩ : ByteArray))) = some r := h
  clear h
  by_cases c2 : a0 ≤ 0
  · rw [if_pos c2] at H
    have c2b0 : decide (a0 ≤ 0) = true := decide_eq_true c2
    clear c2
    obtain rfl := Option.some.inj H
    go_enter Try.func88, Try.ntmps88
    go_wp2
    go_ret
    exact ⟨by first | rfl | (simp [errW_none, errW_some] <;> rfl) | (simp [*, errW_none, errW_some] <;> rfl), by repeat (first | (with_reducible first | exact HB.out | apply below_alloc | apply pw_below_drewN | apply below_drew1) | exact HB.out)⟩
  · rw [if_neg c2] at H
    have c2b0 : decide (a0 ≤ 0) = false := decide_eq_false c2
    clear c2
    have H' := Aside0.mk H
    clear H
    go_enter Try.func88, Try.ntmps88
    go_wp2
    go_loopg [0, 3] k (fun kq v0 v3 w' => ∃ (x0_1 : Int) (x3_1 : ByteArray), v0 = .int .i64 x0_1 ∧ v3 = .string x3_1 ∧ Aside0 (laws_markText.l0 kq x0_1 x3_1 = some r) ∧ Aside0 (kq ≤ k) ∧ Aside0 (Below w.heap.size w w'))
    case atStart => exact ⟨(a0), ((⟨#[]⟩ : ByteArray)), (by first | rfl | (simp; done) | (simp [*]; done)), (by first | rfl | (simp; done) | (simp [*]; done)), H', ⟨Nat.le_refl _⟩, ⟨by repeat (first | (with_reducible first | exact HB.out | apply below_alloc | apply pw_below_drewN | apply below_drew1) | exact HB.out)⟩⟩
    case round =>
      clear H'
      try clear c2
      try clear c2b0
      try clear p2
      obtain ⟨x0_1, x3_1, rfl, rfl, HA, HK1, HB⟩ := hrel
      cases gk with
      | zero => exact absurd HA.out (by simp [laws_markText.l0])
      | succ k1 =>
        have H := HA.out
        clear HA
        simp only [laws_markText.l0] at H
        by_cases c3 : x0_1 > 0
        · rw [if_pos c3] at H
          have c3b0 : decide (0 < x0_1) = true := decide_eq_true c3
          clear c3
          obtain ⟨y370, hy370⟩ : ∃ y_ : List Int, y_ = (([(wrap64 (48 + (Int.tmod x0_1 10))) % 256] : List Int)) := ⟨_, rfl⟩
          replace H : (if (strOfNums y370).size + x3_1.size ≤ 9223372036854775807 then (laws_markText.l0 k1 (wrap64 (Int.tdiv x0_1 10)) ((strOfNums y370) ++ x3_1)) else (none)) = some r := by first | (rw [hy370]; with_reducible exact H) | (have H2_ := (Option.bind_some _ _).symm.trans H; rw [hy370]; with_reducible exact H2_) | (have H2_ := (Option.bind_some _ _).symm.trans H; with_reducible exact H2_) | with_reducible exact H | (rw [hy370]; exact H) | exact H
          have Ny370 := Aside0.mk hy370
          clear hy370
          by_cases c4 : (strOfNums y370).size + x3_1.size ≤ 9223372036854775807
          · rw [if_pos c4] at H
            have c4b0 := eq_true c4
            have c4b1 : decide ((strOfNums y370).size + x3_1.size ≤ 9223372036854775807) = true := decide_eq_true c4
            try have c4b2 : (9223372036854775807 < (strOfNums y370).size + x3_1.size) = False := eq_false (Nat.not_lt.2 c4)
            have H' := Aside0.mk H
            clear H
            go_wp2_with (first | ((with_reducible refine gate_dst (N := 12) rfl ?_); refine Kd.R_lit (Kd.int .u8) _ 5 ?hg (N := 12) ?hd (xs := ([(wrap64 (48 + (Int.tmod x0_1 10))) % 256] : List Int)) (inner := [.int .u8 ((wrap64 (48 + (Int.tmod x0_1 10))) % 256)]) (ok := fun _ => True) (okp := fun _ => True) ?hr ?hp (fun _ hk => hk) trivial (Below.refl _ _) (Nat.le_refl _) (by simp) ?_; (case hd => rfl); (case hg => rfl); (case hr => first | (go_simp; done) | (go_simp; rfl)); (case hp => exact (Reps.one (show Kd.M (Kd.int .u8) _ _ _ ((wrap64 (48 + (Int.tmod x0_1 10))) % 256) [.int .u8 ((wrap64 (48 + (Int.tmod x0_1 10))) % 256)] from rfl) (Reps.none _ _))); intro v371 w5 ho6 hb hg_ hnew_; clear hg_ hnew_; (first | rw [← Ny370.out] at ho6 | (simp only [Int.reduceToNat] at ho6; rw [← Ny370.out] at ho6)); have n0_ := Aside0.mk (Kd.R_lower ho6 (below_size (by repeat (first | (with_reducible first | exact HB.out | apply below_alloc | apply pw_below_drewN | apply below_drew1) | exact HB.out)))); have n1_ := Aside0.mk (below_step (by repeat (first | (with_reducible first | exact HB.out | apply below_alloc | apply pw_below_drewN | apply below_drew1) | exact HB.out)) hb); clear HB; have HO372 := n0_; have HB := n1_; clear n0_ n1_; clear hb ho6; have hcv7 := own_string (P := Try.prog) Try.underlying182 Try.underlying5 Try.underlying9 (Kd.own_of_R HO372.out)))
            go_roundg k1
            case measure => have := HK1.out; omega
            case rel => exact ⟨(wrap64 (Int.tdiv x0_1 10)), ((strOfNums y370) ++ x3_1), (by first | rfl | (simp; done) | (simp [*]; done)), (by first | rfl | (simp; done) | (simp [*]; done)), H', ⟨by have := HK1.out; omega⟩, ⟨by repeat (first | (with_reducible first | exact HB.out | apply below_alloc | apply pw_below_drewN | apply below_drew1) | exact HB.out)⟩⟩
          · rw [if_neg c4] at H
            exact absurd H (by simp)
        · rw [if_neg c3] at H
          have c3b0 : decide (0 < x0_1) = false := decide_eq_false c3
          clear c3
          by_cases c8 : 1 + x3_1.size ≤ 9223372036854775807
          · rw [if_pos c8] at H
            have c8b0 := eq_true c8
            have c8b1 : decide (1 + x3_1.size ≤ 9223372036854775807) = true := decide_eq_true c8
            try have c8b2 : (9223372036854775807 < 1 + x3_1.size) = False := eq_false (Nat.not_lt.2 c8)
            obtain rfl := Option.some.inj H
            go_wp2
            go_ret
            exact ⟨by first | rfl | (simp [errW_none, errW_some] <;> rfl) | (simp [*, errW_none, errW_some] <;> rfl), by repeat (first | (with_reducible first | exact HB.out | apply below_alloc | apply pw_below_drewN | apply below_drew1) | exact HB.out)⟩
          · rw [if_neg c8] at H
            exact absurd H (by simp)
def laws_markTermS.l0 : Nat → List (S120) → Int → Int → Option (Int × (List (S120)))
  | 0, _, _, _ => none
  | k + 1, x0, x1, x5 => if x5 < (x0.length : Int) then (if 0 ≤ x5 then ((some (x0.set (x5 : Int).toNat (⟨x1, (rd_T120 x0 x5).f1, (rd_T120 x0 x5).f2, (⟨(rd_T120 x0 x5).f3.f0, (rd_T120 x0 x5).f3.f1, (rd_T120 x0 x5).f3.f2⟩ : S104)⟩ : S120) : List (S120))).bind fun y373 => ((some (y373.set (x5 : Int).toNat (⟨(rd_T120 y373 x5).f0, wrap64 (x1 + 1), (rd_T120 y373 x5).f2, (⟨(rd_T120 y373 x5).f3.f0, (rd_T120 y373 x5).f3.f1, (rd_T120 y373 x5).f3.f2⟩ : S104)⟩ : S120) : List (S120))).bind fun y374 => ((laws_markText.f k (wrap64 ((wrap64 (x1 + 1)) + 1))).bind fun t375 => ((some (y374.set (x5 : Int).toNat (⟨(rd_T120 y374 x5).f0, (rd_T120 y374 x5).f1, t375, (⟨(rd_T120 y374 x5).f3.f0, (rd_T120 y374 x5).f3.f1, (rd_T120 y374 x5).f3.f2⟩ : S104)⟩ : S120) : List (S120))).bind fun y376 => ((some (y376.set (x5 : Int).toNat (⟨(rd_T120 y376 x5).f0, (rd_T120 y376 x5).f1, (rd_T120 y376 x5).f2, (⟨wrap64 ((wrap64 ((wrap64 (x1 + 1)) + 1)) + 1), (rd_T120 y376 x5).f3.f1, (rd_T120 y376 x5).f3.f2⟩ : S104)⟩ : S120) : List (S120))).bind fun y377 => ((some (y377.set (x5 : Int).toNat (⟨(rd_T120 y377 x5).f0, (rd_T120 y377 x5).f1, (rd_T120 y377 x5).f2, (⟨(rd_T120 y377 x5).f3.f0, wrap64 ((wrap64 ((wrap64 ((wrap64 (x1 + 1)) + 1)) + 1)) + 1), (rd_T120 y377 x5).f3.f2⟩ : S104)⟩ : S120) : List (S120))).bind fun y378 => ((laws_markText.f k (wrap64 ((wrap64 ((wrap64 ((wrap64 ((wrap64 (x1 + 1)) + 1)) + 1)) + 1)) + 1))).bind fun t379 => (laws_markTermS.l0 k (y378.set (x5 : Int).toNat (⟨(rd_T120 y378 x5).f0, (rd_T120 y378 x5).f1, (rd_T120 y378 x5).f2, (⟨(rd_T120 y378 x5).f3.f0, (rd_T120 y378 x5).f3.f1, t379⟩ : S104)⟩ : S120)) (wrap64 ((wrap64 ((wrap64 ((wrap64 ((wrap64 ((wrap64 (x1 + 1)) + 1)) + 1)) + 1)) + 1)) + 1)) (wrap64 (x5 + 1)))))))))) else (none)) else (some (x1, x0))
def laws_markTermS.f (k : Nat) (l0 : List (S120)) (a1 : Int) : Option (Int × (List (S120))) := laws_markTermS.l0 k l0 a1 0
theorem laws_markTermS.mono_l : ∀ k, (∀ y0 y1 y2, LeO (laws_markTermS.l0 k y0 y1 y2) (laws_markTermS.l0 (k + 1) y0 y1 y2))
  | 0 => fun _ _ _ r h => by simp [laws_markTermS.l0] at h
  | k + 1 => by
    have ih0 := laws_markTermS.mono_l k
    · intro y0 y1 y2
      unfold laws_markTermS.l0
      repeat' first
      | (with_reducible exact ih0 _ _ _)
      | (with_reducible exact laws_markText.mono _ _)
      | (with_reducible exact LeO.refl _)
      | (with_reducible exact LeO.none _)
      | (with_reducible refine LeO.ite ?_ ?_)
      | (with_reducible refine LeO.bind ?_ (fun _ => ?_))
      | exact ih0 _ _ _
      | exact laws_markText.mono _ _
      | exact LeO.none _
      | refine LeO.ite ?_ ?_
      | refine LeO.bind ?_ (fun _ => ?_)
theorem laws_markTermS.mono : ∀ a0 a1 k, LeO (laws_markTermS.f k a0 a1) (laws_markTermS.f (k + 1) a0 a1) := by
  intro a0 a1 k
  have ih0 := laws_markTermS.mono_l k
  unfold laws_markTermS.f
  repeat' first
      | (with_reducible exact ih0 _ _ _)
      | (with_reducible exact laws_markText.mono _ _)
      | (with_reducible exact LeO.refl _)
      | (with_reducible exact LeO.none _)
      | (with_reducible refine LeO.ite ?_ ?_)
      | (with_reducible refine LeO.bind ?_ (fun _ => ?_))
      | exact ih0 _ _ _
      | exact laws_markText.mono _ _
      | exact LeO.none _
      | refine LeO.ite ?_ ?_
      | refine LeO.bind ?_ (fun _ => ?_)
set_option maxHeartbeats 8000000 in
set_option maxRecDepth 100000 in
theorem laws_markTermS.calls (k : Nat) (P0_ : Nat → Prop) (u9000_ : Value) (l0 : List (S120)) (a1 : Int) (r1 : Int) (r2 : List (S120)) (w0 w : World) (hB : Below w0.heap.size w0 w) (ho0 : Kd.R k120 120 w w0.heap.size P0_ u9000_ l0) (h : laws_markTermS.f k l0 a1 = some (r1, r2)) :
    Calls Try.prog 76 #[u9000_, .int .i64 a1] w fun e w' => e = .returned (.int .i64 r1) ∧ Kd.R k120 120 w' w0.heap.size (fun k_ => (P0_ k_ ∨ w.heap.size ≤ k_)) u9000_ r2 ∧ Below w0.heap.size w0 w' ∧ Kept w w' (fun k_ => P0_ k_) := by
  have HO0 := Aside0.mk (show Kd.R k120 120 w w0.heap.size (fun k_ => (P0_ k_ ∨ w.heap.size ≤ k_)) u9000_ l0 from Kd.R_mono ho0 (fun k_ hk => (.inl hk)))
  have HK := Aside0.mk (Kept.refl w (fun k_ => P0_ k_))
  have HW0 := Aside0.mk hB.size
  have HB := Aside0.mk hB
  clear hB
  have H : (laws_markTermS.l0 k l0 a1 0) = some (r1, r2) := h
  clear h
  have H' := Aside0.mk H
  clear H
  go_enter Try.func76, Try.ntmps76
  go_wp2
  go_loopg [1, 5] k (fun kq v1 v5 w' => ∃ (x0_1 : List (S120)) (x1_1 : Int) (x5_1 : Int), v1 = .int .i64 x1_1 ∧ v5 = .int .i64 x5_1 ∧ Aside0 (laws_markTermS.l0 kq x0_1 x1_1 x5_1 = some (r1, r2)) ∧ Aside0 (kq ≤ k) ∧ Aside0 (Kd.R k120 120 w' w0.heap.size (fun k_ => (P0_ k_ ∨ w.heap.size ≤ k_)) u9000_ x0_1) ∧ Aside0 (Kept w w' (fun k_ => P0_ k_)) ∧ Aside0 (Below w0.heap.size w0 w'))
  case atStart => exact ⟨(l0), (a1), (0), (by first | rfl | (simp; done) | (simp [*]; done)), (by first | rfl | (simp; done) | (simp [*]; done)), H', ⟨Nat.le_refl _⟩, ⟨by (with_reducible repeat (first | apply Kd.R_alloc | apply Kd.R_drewN | apply Kd.R_drew)); exact HO0.out⟩, ⟨by repeat (first | (with_reducible first | exact HK.out | apply Kept.alloc | apply Kept.drewN | apply Kept.drew) | exact HK.out)⟩, ⟨by repeat (first | (with_reducible first | exact HB.out | apply below_alloc | apply pw_below_drewN | apply below_drew1) | exact HB.out)⟩⟩
  case round =>
    clear H'
    try clear p2
    obtain ⟨x0_1, x1_1, x5_1, rfl, rfl, HA, HK1, HO_0, HK, HB⟩ := hrel
    cases gk with
    | zero => exact absurd HA.out (by simp [laws_markTermS.l0])
    | succ k1 =>
      have H := HA.out
      clear HA
      simp only [laws_markTermS.l0] at H
      by_cases c3 : x5_1 < (x0_1.length : Int)
      · rw [if_pos c3] at H
        have c3b0 : decide (x5_1 < (x0_1.length : Int)) = true := decide_eq_true c3
        clear c3
        by_cases c4 : 0 ≤ x5_1
        · rw [if_pos c4] at H
          have c4b0 : decide (0 ≤ x5_1) = true := decide_eq_true c4
          clear c4
          obtain ⟨y373, hy373⟩ : ∃ y_ : List (S120), y_ = (x0_1.set (x5_1 : Int).toNat (⟨x1_1, (rd_T120 x0_1 x5_1).f1, (rd_T120 x0_1 x5_1).f2, (⟨(rd_T120 x0_1 x5_1).f3.f0, (rd_T120 x0_1 x5_1).f3.f1, (rd_T120 x0_1 x5_1).f3.f2⟩ : S104)⟩ : S120)) := ⟨_, rfl⟩
          replace H : ((some (y373.set (x5_1 : Int).toNat (⟨(rd_T120 y373 x5_1).f0, wrap64 (x1_1 + 1), (rd_T120 y373 x5_1).f2, (⟨(rd_T120 y373 x5_1).f3.f0, (rd_T120 y373 x5_1).f3.f1, (rd_T120 y373 x5_1).f3.f2⟩ : S104)⟩ : S120) : List (S120))).bind fun y374 => ((laws_markText.f k1 (wrap64 ((wrap64 (x1_1 + 1)) + 1))).bind fun t375 => ((some (y374.set (x5_1 : Int).toNat (⟨(rd_T120 y374 x5_1).f0, (rd_T120 y374 x5_1).f1, t375, (⟨(rd_T120 y374 x5_1).f3.f0, (rd_T120 y374 x5_1).f3.f1, (rd_T120 y374 x5_1).f3.f2⟩ : S104)⟩ : S120) : List (S120))).bind fun y376 => ((some (y376.set (x5_1 : Int).toNat (⟨(rd_T120 y376 x5_1).f0, (rd_T120 y376 x5_1).f1, (rd_T120 y376 x5_1).f2, (⟨wrap64 ((wrap64 ((wrap64 (x1_1 + 1)) + 1)) + 1), (rd_T120 y376 x5_1).f3.f1, (rd_T120 y376 x5_1).f3.f2⟩ : S104)⟩ : S120) : List (S120))).bind fun y377 => ((some (y377.set (x5_1 : Int).toNat (⟨(rd_T120 y377 x5_1).f0, (rd_T120 y377 x5_1).f1, (rd_T120 y377 x5_1).f2, (⟨(rd_T120 y377 x5_1).f3.f0, wrap64 ((wrap64 ((wrap64 ((wrap64 (x1_1 + 1)) + 1)) + 1)) + 1), (rd_T120 y377 x5_1).f3.f2⟩ : S104)⟩ : S120) : List (S120))).bind fun y378 => ((laws_markText.f k1 (wrap64 ((wrap64 ((wrap64 ((wrap64 ((wrap64 (x1_1 + 1)) + 1)) + 1)) + 1)) + 1))).bind fun t379 => (laws_markTermS.l0 k1 (y378.set (x5_1 : Int).toNat (⟨(rd_T120 y378 x5_1).f0, (rd_T120 y378 x5_1).f1, (rd_T120 y378 x5_1).f2, (⟨(rd_T120 y378 x5_1).f3.f0, (rd_T120 y378 x5_1).f3.f1, t379⟩ : S104)⟩ : S120)) (wrap64 ((wrap64 ((wrap64 ((wrap64 ((wrap64 ((wrap64 (x1_1 + 1)) + 1)) + 1)) + 1)) + 1)) + 1)) (wrap64 (x5_1 + 1))))))))) = some (r1, r2) := by first | (rw [hy373]; with_reducible exact H) | (have H2_ := (Option.bind_some _ _).symm.trans H; rw [hy373]; with_reducible exact H2_) | (have H2_ := (Option.bind_some _ _).symm.trans H; with_reducible exact H2_) | with_reducible exact H | (rw [hy373]; exact H) | exact H
          have Ny373 := Aside0.mk hy373
          clear hy373
          obtain ⟨y374, hy374⟩ : ∃ y_ : List (S120), y_ = (y373.set (x5_1 : Int).toNat (⟨(rd_T120 y373 x5_1).f0, wrap64 (x1_1 + 1), (rd_T120 y373 x5_1).f2, (⟨(rd_T120 y373 x5_1).f3.f0, (rd_T120 y373 x5_1).f3.f1, (rd_T120 y373 x5_1).f3.f2⟩ : S104)⟩ : S120)) := ⟨_, rfl⟩
          replace H : ((laws_markText.f k1 (wrap64 ((wrap64 (x1_1 + 1)) + 1))).bind fun t375 => ((some (y374.set (x5_1 : Int).toNat (⟨(rd_T120 y374 x5_1).f0, (rd_T120 y374 x5_1).f1, t375, (⟨(rd_T120 y374 x5_1).f3.f0, (rd_T120 y374 x5_1).f3.f1, (rd_T120 y374 x5_1).f3.f2⟩ : S104)⟩ : S120) : List (S120))).bind fun y376 => ((some (y376.set (x5_1 : Int).toNat (⟨(rd_T120 y376 x5_1).f0, (rd_T120 y376 x5_1).f1, (rd_T120 y376 x5_1).f2, (⟨wrap64 ((wrap64 ((wrap64 (x1_1 + 1)) + 1)) + 1), (rd_T120 y376 x5_1).f3.f1, (rd_T120 y376 x5_1).f3.f2⟩ : S104)⟩ : S120) : List (S120))).bind fun y377 => ((some (y377.set (x5_1 : Int).toNat (⟨(rd_T120 y377 x5_1).f0, (rd_T120 y377 x5_1).f1, (rd_T120 y377 x5_1).f2, (⟨(rd_T120 y377 x5_1).f3.f0, wrap64 ((wrap64 ((wrap64 ((wrap64 (x1_1 + 1)) + 1)) + 1)) + 1), (rd_T120 y377 x5_1).f3.f2⟩ : S104)⟩ : S120) : List (S120))).bind fun y378 => ((laws_markText.f k1 (wrap64 ((wrap64 ((wrap64 ((wrap64 ((wrap64 (x1_1 + 1)) + 1)) + 1)) + 1)) + 1))).bind fun t379 => (laws_markTermS.l0 k1 (y378.set (x5_1 : Int).toNat (⟨(rd_T120 y378 x5_1).f0, (rd_T120 y378 x5_1).f1, (rd_T120 y378 x5_1).f2, (⟨(rd_T120 y378 x5_1).f3.f0, (rd_T120 y378 x5_1).f3.f1, t379⟩ : S104)⟩ : S120)) (wrap64 ((wrap64 ((wrap64 ((wrap64 ((wrap64 ((wrap64 (x1_1 + 1)) + 1)) + 1)) + 1)) + 1)) + 1)) (wrap64 (x5_1 + 1)))))))) = some (r1, r2) := by first | (rw [hy374]; with_reducible exact H) | (have H2_ := (Option.bind_some _ _).symm.trans H; rw [hy374]; with_reducible exact H2_) | (have H2_ := (Option.bind_some _ _).symm.trans H; with_reducible exact H2_) | with_reducible exact H | (rw [hy374]; exact H) | exact H
          have Ny374 := Aside0.mk hy374
          clear hy374
          replace H := Option.bind_eq_some_iff.mp H
          obtain ⟨t375, A70, H⟩ := H
          replace H : ((some (y374.set (x5_1 : Int).toNat (⟨(rd_T120 y374 x5_1).f0, (rd_T120 y374 x5_1).f1, t375, (⟨(rd_T120 y374 x5_1).f3.f0, (rd_T120 y374 x5_1).f3.f1, (rd_T120 y374 x5_1).f3.f2⟩ : S104)⟩ : S120) : List (S120))).bind fun y376 => ((some (y376.set (x5_1 : Int).toNat (⟨(rd_T120 y376 x5_1).f0, (rd_T120 y376 x5_1).f1, (rd_T120 y376 x5_1).f2, (⟨wrap64 ((wrap64 ((wrap64 (x1_1 + 1)) + 1)) + 1), (rd_T120 y376 x5_1).f3.f1, (rd_T120 y376 x5_1).f3.f2⟩ : S104)⟩ : S120) : List (S120))).bind fun y377 => ((some (y377.set (x5_1 : Int).toNat (⟨(rd_T120 y377 x5_1).f0, (rd_T120 y377 x5_1).f1, (rd_T120 y377 x5_1).f2, (⟨(rd_T120 y377 x5_1).f3.f0, wrap64 ((wrap64 ((wrap64 ((wrap64 (x1_1 + 1)) + 1)) + 1)) + 1), (rd_T120 y377 x5_1).f3.f2⟩ : S104)⟩ : S120) : List (S120))).bind fun y378 => ((laws_markText.f k1 (wrap64 ((wrap64 ((wrap64 ((wrap64 ((wrap64 (x1_1 + 1)) + 1)) + 1)) + 1)) + 1))).bind fun t379 => (laws_markTermS.l0 k1 (y378.set (x5_1 : Int).toNat (⟨(rd_T120 y378 x5_1).f0, (rd_T120 y378 x5_1).f1, (rd_T120 y378 x5_1).f2, (⟨(rd_T120 y378 x5_1).f3.f0, (rd_T120 y378 x5_1).f3.f1, t379⟩ : S104)⟩ : S120)) (wrap64 ((wrap64 ((wrap64 ((wrap64 ((wrap64 ((wrap64 (x1_1 + 1)) + 1)) + 1)) + 1)) + 1)) + 1)) (wrap64 (x5_1 + 1))))))) = some (r1, r2) := H
          have A7 := Aside0.mk A70
          clear A70
          obtain ⟨y376, hy376⟩ : ∃ y_ : List (S120), y_ = (y374.set (x5_1 : Int).toNat (⟨(rd_T120 y374 x5_1).f0, (rd_T120 y374 x5_1).f1, t375, (⟨(rd_T120 y374 x5_1).f3.f0, (rd_T120 y374 x5_1).f3.f1, (rd_T120 y374 x5_1).f3.f2⟩ : S104)⟩ : S120)) := ⟨_, rfl⟩
          replace H : ((some (y376.set (x5_1 : Int).toNat (⟨(rd_T120 y376 x5_1).f0, (rd_T120 y376 x5_1).f1, (rd_T120 y376 x5_1).f2, (⟨wrap64 ((wrap64 ((wrap64 (x1_1 + 1)) + 1)) + 1), (rd_T120 y376 x5_1).f3.f1, (rd_T120 y376 x5_1).f3.f2⟩ : S104)⟩ : S120) : List (S120))).bind fun y377 => ((some (y377.set (x5_1 : Int).toNat (⟨(rd_T120 y377 x5_1).f0, (rd_T120 y377 x5_1).f1, (rd_T120 y377 x5_1).f2, (⟨(rd_T120 y377 x5_1).f3.f0, wrap64 ((wrap64 ((wrap64 ((wrap64 (x1_1 + 1)) + 1)) + 1)) + 1), (rd_T120 y377 x5_1).f3.f2⟩ : S104)⟩ : S120) : List (S120))).bind fun y378 => ((laws_markText.f k1 (wrap64 ((wrap64 ((wrap64 ((wrap64 ((wrap64 (x1_1 + 1)) + 1)) + 1)) + 1)) + 1))).bind fun t379 => (laws_markTermS.l0 k1 (y378.set (x5_1 : Int).toNat (⟨(rd_T120 y378 x5_1).f0, (rd_T120 y378 x5_1).f1, (rd_T120 y378 x5_1).f2, (⟨(rd_T120 y378 x5_1).f3.f0, (rd_T120 y378 x5_1).f3.f1, t379⟩ : S104)⟩ : S120)) (wrap64 ((wrap64 ((wrap64 ((wrap64 ((wrap64 ((wrap64 (x1_1 + 1)) + 1)) + 1)) + 1)) + 1)) + 1)) (wrap64 (x5_1 + 1)))))) = some (r1, r2) := by first | (rw [hy376]; with_reducible exact H) | (have H2_ := (Option.bind_some _ _).symm.trans H; rw [hy376]; with_reducible exact H2_) | (have H2_ := (Option.bind_some _ _).symm.trans H; with_reducible exact H2_) | with_reducible exact H | (rw [hy376]; exact H) | exact H
          have Ny376 := Aside0.mk hy376
          clear hy376
          obtain ⟨y377, hy377⟩ : ∃ y_ : List (S120), y_ = (y376.set (x5_1 : Int).toNat (⟨(rd_T120 y376 x5_1).f0, (rd_T120 y376 x5_1).f1, (rd_T120 y376 x5_1).f2, (⟨wrap64 ((wrap64 ((wrap64 (x1_1 + 1)) + 1)) + 1), (rd_T120 y376 x5_1).f3.f1, (rd_T120 y376 x5_1).f3.f2⟩ : S104)⟩ : S120)) := ⟨_, rfl⟩
          replace H : ((some (y377.set (x5_1 : Int).toNat (⟨(rd_T120 y377 x5_1).f0, (rd_T120 y377 x5_1).f1, (rd_T120 y377 x5_1).f2, (⟨(rd_T120 y377 x5_1).f3.f0, wrap64 ((wrap64 ((wrap64 ((wrap64 (x1_1 + 1)) + 1)) + 1)) + 1), (rd_T120 y377 x5_1).f3.f2⟩ : S104)⟩ : S120) : List (S120))).bind fun y378 => ((laws_markText.f k1 (wrap64 ((wrap64 ((wrap64 ((wrap64 ((wrap64 (x1_1 + 1)) + 1)) + 1)) + 1)) + 1))).bind fun t379 => (laws_markTermS.l0 k1 (y378.set (x5_1 : Int).toNat (⟨(rd_T120 y378 x5_1).f0, (rd_T120 y378 x5_1).f1, (rd_T120 y378 x5_1).f2, (⟨(rd_T120 y378 x5_1).f3.f0, (rd_T120 y378 x5_1).f3.f1, t379⟩ : S104)⟩ : S120)) (wrap64 ((wrap64 ((wrap64 ((wrap64 ((wrap64 ((wrap64 (x1_1 + 1)) + 1)) + 1)) + 1)) + 1)) + 1)) (wrap64 (x5_1 + 1))))) = some (r1, r2) := by first | (rw [hy377]; with_reducible exact H) | (have H2_ := (Option.bind_some _ _).symm.trans H; rw [hy377]; with_reducible exact H2_) | (have H2_ := (Option.bind_some _ _).symm.trans H; with_reducible exact H2_) | with_reducible exact H | (rw [hy377]; exact H) | exact H
          have Ny377 := Aside0.mk hy377
          clear hy377
          obtain ⟨y378, hy378⟩ : ∃ y_ : List (S120), y_ = (y377.set (x5_1 : Int).toNat (⟨(rd_T120 y377 x5_1).f0, (rd_T120 y377 x5_1).f1, (rd_T120 y377 x5_1).f2, (⟨(rd_T120 y377 x5_1).f3.f0, wrap64 ((wrap64 ((wrap64 ((wrap64 (x1_1 + 1)) + 1)) + 1)) + 1), (rd_T120 y377 x5_1).f3.f2⟩ : S104)⟩ : S120)) := ⟨_, rfl⟩
          replace H : ((laws_markText.f k1 (wrap64 ((wrap64 ((wrap64 ((wrap64 ((wrap64 (x1_1 + 1)) + 1)) + 1)) + 1)) + 1))).bind fun t379 => (laws_markTermS.l0 k1 (y378.set (x5_1 : Int).toNat (⟨(rd_T120 y378 x5_1).f0, (rd_T120 y378 x5_1).f1, (rd_T120 y378 x5_1).f2, (⟨(rd_T120 y378 x5_1).f3.f0, (rd_T120 y378 x5_1).f3.f1, t379⟩ : S104)⟩ : S120)) (wrap64 ((wrap64 ((wrap64 ((wrap64 ((wrap64 ((wrap64 (x1_1 + 1)) + 1)) + 1)) + 1)) + 1)) + 1)) (wrap64 (x5_1 + 1)))) = some (r1, r2) := by first | (rw [hy378]; with_reducible exact H) | (have H2_ := (Option.bind_some _ _).symm.trans H; rw [hy378]; with_reducible exact H2_) | (have H2_ := (Option.bind_some _ _).symm.trans H; with_reducible exact H2_) | with_reducible exact H | (rw [hy378]; exact H) | exact H
          have Ny378 := Aside0.mk hy378
          clear hy378
          replace H := Option.bind_eq_some_iff.mp H
          obtain ⟨t379, A110, H⟩ := H
          replace H : (laws_markTermS.l0 k1 (y378.set (x5_1 : Int).toNat (⟨(rd_T120 y378 x5_1).f0, (rd_T120 y378 x5_1).f1, (rd_T120 y378 x5_1).f2, (⟨(rd_T120 y378 x5_1).f3.f0, (rd_T120 y378 x5_1).f3.f1, t379⟩ : S104)⟩ : S120)) (wrap64 ((wrap64 ((wrap64 ((wrap64 ((wrap64 ((wrap64 (x1_1 + 1)) + 1)) + 1)) + 1)) + 1)) + 1)) (wrap64 (x5_1 + 1))) = some (r1, r2) := H
          have A11 := Aside0.mk A110
          clear A110
          obtain ⟨y380, hy380⟩ : ∃ y_ : List (S120), y_ = (y378.set (x5_1 : Int).toNat (⟨(rd_T120 y378 x5_1).f0, (rd_T120 y378 x5_1).f1, (rd_T120 y378 x5_1).f2, (⟨(rd_T120 y378 x5_1).f3.f0, (rd_T120 y378 x5_1).f3.f1, t379⟩ : S104)⟩ : S120)) := ⟨_, rfl⟩
          replace H : (laws_markTermS.l0 k1 y380 (wrap64 ((wrap64 ((wrap64 ((wrap64 ((wrap64 ((wrap64 (x1_1 + 1)) + 1)) + 1)) + 1)) + 1)) + 1)) (wrap64 (x5_1 + 1))) = some (r1, r2) := by first | (rw [hy380]; with_reducible exact H) | (have H2_ := (Option.bind_some _ _).symm.trans H; rw [hy380]; with_reducible exact H2_) | (have H2_ := (Option.bind_some _ _).symm.trans H; with_reducible exact H2_) | with_reducible exact H | (rw [hy380]; exact H) | exact H
          have Ny380 := Aside0.mk hy380
          clear hy380
          have H' := Aside0.mk H
          clear H
          obtain ⟨Ao13, co13, eo13⟩ := Kd.R_slice HO_0.out
          subst eo13
          have p5 : 0 ≤ (x5_1 : Int) := of_decide_eq_true (by first | (with_reducible assumption) | assumption)
          have q5 : (x5_1 : Int) < ((x0_1.length : Int) : Int) := of_decide_eq_true (by first | (with_reducible assumption) | assumption)
          obtain ⟨go5, co5, eo5, gb5, gl5, cl5, HG5⟩ := Kd.R_form HO_0.out (by omega)
          (first | cases eo5 | (injection eo5 with ea_ en_ ec_; (first | subst ea_ | (injection ea_ with ea_; subst ea_)); subst ec_; clear en_))
          have GB5 := Aside0.mk gb5
          have GG5 := Aside0.mk HG5
          clear gb5 gl5 HG5
          have HMgo5 := Aside0.mk (show (P0_ go5 ∨ w.heap.size ≤ go5) from (HO_0.out.1 _ rfl))
          obtain ⟨ce5, hcl5, hM5, hcc5, hfr5⟩ := Kd.R_elem HO_0.out z120 (x5_1 : Int) p5 q5
          obtain rfl := k120_openM hM5
          have hx5_0 : wr.cell? ⟨go5, (x5_1 : Int).toNat * 6, none⟩ = some (.int .i64 ((rd_T120 x0_1 x5_1).f0)) := hcc5 0 _ rfl
          have hx5_1 : wr.cell? ⟨go5, (x5_1 : Int).toNat * 6 + 1, none⟩ = some (.int .i64 ((rd_T120 x0_1 x5_1).f1)) := hcc5 1 _ rfl
          have hx5_2 : wr.cell? ⟨go5, (x5_1 : Int).toNat * 6 + 2, none⟩ = some (.string ((rd_T120 x0_1 x5_1).f2)) := hcc5 2 _ rfl
          have hx5_3 : wr.cell? ⟨go5, (x5_1 : Int).toNat * 6 + 3, none⟩ = some (.int .i64 ((rd_T120 x0_1 x5_1).f3.f0)) := hcc5 3 _ rfl
          have hx5_4 : wr.cell? ⟨go5, (x5_1 : Int).toNat * 6 + 4, none⟩ = some (.int .i64 ((rd_T120 x0_1 x5_1).f3.f1)) := hcc5 4 _ rfl
          have hx5_5 : wr.cell? ⟨go5, (x5_1 : Int).toNat * 6 + 5, none⟩ = some (.string ((rd_T120 x0_1 x5_1).f3.f2)) := hcc5 5 _ rfl
          have hf5_0 : wr.frozen? ⟨go5, (x5_1 : Int).toNat * 6, none⟩ = false := hfr5 0
          have hf5_1 : wr.frozen? ⟨go5, (x5_1 : Int).toNat * 6 + 1, none⟩ = false := hfr5 1
          have hf5_2 : wr.frozen? ⟨go5, (x5_1 : Int).toNat * 6 + 2, none⟩ = false := hfr5 2
          have hf5_3 : wr.frozen? ⟨go5, (x5_1 : Int).toNat * 6 + 3, none⟩ = false := hfr5 3
          have hf5_4 : wr.frozen? ⟨go5, (x5_1 : Int).toNat * 6 + 4, none⟩ = false := hfr5 4
          have hf5_5 : wr.frozen? ⟨go5, (x5_1 : Int).toNat * 6 + 5, none⟩ = false := hfr5 5
          clear hcl5 hcc5 hfr5 hM5
          replace p5 := eq_true p5
          replace q5 := eq_true q5
          have HX14 := Aside0.mk (show Kd.R k120 120 wr w0.heap.size (fun k_ => (P0_ k_ ∨ w.heap.size ≤ k_)) (.slice (some ⟨go5, 0, none⟩) x0_1.length co13) x0_1 from (by (with_reducible repeat (first | apply Kd.R_alloc | apply Kd.R_drewN | apply Kd.R_drew)); exact HO_0.out))
          obtain ⟨ce14, hcl14, hM14, hcc14, hfr14⟩ := Kd.R_elem HX14.out z120 (x5_1 : Int) (of_decide_eq_true (by first | (with_reducible assumption) | assumption)) (by have h_ : (x5_1 : Int) < ((x0_1.length : Int) : Int) := of_decide_eq_true (by first | (with_reducible assumption) | assumption); first | exact h_ | (have e_ := (Kd.R_reads' HO_0.out).1; omega) | simpa using h_)
          obtain rfl := k120_openM hM14
          have HP14 := Kd.R_seg HX14.out (x5_1 : Int) (of_decide_eq_true (by first | (with_reducible assumption) | assumption)) (by have h_ : (x5_1 : Int) < ((x0_1.length : Int) : Int) := of_decide_eq_true (by first | (with_reducible assumption) | assumption); first | exact h_ | (have e_ := (Kd.R_reads' HO_0.out).1; omega) | simpa using h_) (seg := [.int .i64 x1_1]) (j := 0) hcl14 hcc14 (show 1 ≤ 6 from by decide) (x' := (⟨x1_1, (rd_T120 x0_1 x5_1).f1, (rd_T120 x0_1 x5_1).f2, (⟨(rd_T120 x0_1 x5_1).f3.f0, (rd_T120 x0_1 x5_1).f3.f1, (rd_T120 x0_1 x5_1).f3.f2⟩ : S104)⟩ : S120)) (k120_mkM _ _ _ (⟨x1_1, (rd_T120 x0_1 x5_1).f1, (rd_T120 x0_1 x5_1).f2, (⟨(rd_T120 x0_1 x5_1).f3.f0, (rd_T120 x0_1 x5_1).f3.f1, (rd_T120 x0_1 x5_1).f3.f2⟩ : S104)⟩ : S120) ) (fun _ hk => hk)
          have hx14_0 := hcc14 0 _ rfl
          (try simp only [show (k120).sz = 6 from rfl, Nat.mul_one, Nat.add_zero] at hx14_0)
          have hf14_0 := hfr14 0
          (try simp only [show (k120).sz = 6 from rfl, Nat.mul_one, Nat.add_zero] at hf14_0)
          clear hcl14 hcc14 hfr14 hM14
          go_wp2_with (first | ((with_reducible refine gate_store (t := 3) (p := 16) rfl ?_); refine store_event (t := 3) (p := 16) (v := ?vo_w15) (w1 := (wr.setCell ⟨go5, (x5_1 : Int).toNat * 6, none⟩ (.int .i64 x1_1))) ?hg ?ho ?hn ?hr ?_; (case ho => rfl); (case hg => rfl); (case hn => rfl); (case hr => first | (go_simp; done) | (go_simp; rfl)); intro w15 hw; have hg : wr.grownBy w15 (some go5) := (by rw [hw]; exact HP14.2); have hp_ : Kd.R k120 120 w15 w0.heap.size (fun k_ => (P0_ k_ ∨ w.heap.size ≤ k_)) (.slice (some ⟨go5, 0, none⟩) x0_1.length co13) y373 := (by rw [hw, Ny373.out]; exact HP14.1); clear HP14; have n0_ := Aside0.mk (hp_); have n1_ := Aside0.mk ((by rw [hw]; exact below_set (HB.out) GB5.out : Below w0.heap.size w0 w15)); have n2_ := Aside0.mk (Kept.of_grown (S := (fun k_ => P0_ k_)) hg (by repeat (first | (with_reducible first | exact HK.out | apply Kept.alloc | apply Kept.drewN | apply Kept.drew) | exact HK.out)) (fun k_ e_ => (HO_0.out.1 k_ e_))); clear HO_0; clear HB; clear HK; have HO_0 := n0_; have HB := n1_; have HK := n2_; clear n0_ n1_ n2_; clear hg hw hp_; have p6 : 0 ≤ (x5_1 : Int) := of_decide_eq_true (by first | (with_reducible assumption) | assumption); have q6 : (x5_1 : Int) < ((x0_1.length : Int) : Int) := of_decide_eq_true (by first | (with_reducible assumption) | assumption); obtain ⟨ce6, hcl6, hM6, hcc6, hfr6⟩ := Kd.R_elem HO_0.out z120 (x5_1 : Int) p6 q6; obtain rfl := k120_openM hM6; have hx6_0 : w15.cell? ⟨go5, (x5_1 : Int).toNat * 6, none⟩ = some (.int .i64 ((rd_T120 y373 x5_1).f0)) := hcc6 0 _ rfl; have hx6_1 : w15.cell? ⟨go5, (x5_1 : Int).toNat * 6 + 1, none⟩ = some (.int .i64 ((rd_T120 y373 x5_1).f1)) := hcc6 1 _ rfl; have hx6_2 : w15.cell? ⟨go5, (x5_1 : Int).toNat * 6 + 2, none⟩ = some (.string ((rd_T120 y373 x5_1).f2)) := hcc6 2 _ rfl; have hx6_3 : w15.cell? ⟨go5, (x5_1 : Int).toNat * 6 + 3, none⟩ = some (.int .i64 ((rd_T120 y373 x5_1).f3.f0)) := hcc6 3 _ rfl; have hx6_4 : w15.cell? ⟨go5, (x5_1 : Int).toNat * 6 + 4, none⟩ = some (.int .i64 ((rd_T120 y373 x5_1).f3.f1)) := hcc6 4 _ rfl; have hx6_5 : w15.cell? ⟨go5, (x5_1 : Int).toNat * 6 + 5, none⟩ = some (.string ((rd_T120 y373 x5_1).f3.f2)) := hcc6 5 _ rfl; have hf6_0 : w15.frozen? ⟨go5, (x5_1 : Int).toNat * 6, none⟩ = false := hfr6 0; have hf6_1 : w15.frozen? ⟨go5, (x5_1 : Int).toNat * 6 + 1, none⟩ = false := hfr6 1; have hf6_2 : w15.frozen? ⟨go5, (x5_1 : Int).toNat * 6 + 2, none⟩ = false := hfr6 2; have hf6_3 : w15.frozen? ⟨go5, (x5_1 : Int).toNat * 6 + 3, none⟩ = false := hfr6 3; have hf6_4 : w15.frozen? ⟨go5, (x5_1 : Int).toNat * 6 + 4, none⟩ = false := hfr6 4; have hf6_5 : w15.frozen? ⟨go5, (x5_1 : Int).toNat * 6 + 5, none⟩ = false := hfr6 5; clear hcl6 hcc6 hfr6 hM6; replace p6 := eq_true p6; replace q6 := eq_true q6; have HX16 := Aside0.mk (show Kd.R k120 120 w15 w0.heap.size (fun k_ => (P0_ k_ ∨ w.heap.size ≤ k_)) (.slice (some ⟨go5, 0, none⟩) x0_1.length co13) y373 from (by (with_reducible repeat (first | apply Kd.R_alloc | apply Kd.R_drewN | apply Kd.R_drew)); exact HO_0.out)); obtain ⟨ce16, hcl16, hM16, hcc16, hfr16⟩ := Kd.R_elem HX16.out z120 (x5_1 : Int) (of_decide_eq_true (by first | (with_reducible assumption) | assumption)) (by have h_ : (x5_1 : Int) < ((x0_1.length : Int) : Int) := of_decide_eq_true (by first | (with_reducible assumption) | assumption); first | exact h_ | (have e_ := (Kd.R_reads' HO_0.out).1; omega) | simpa using h_); obtain rfl := k120_openM hM16; have HP16 := Kd.R_seg HX16.out (x5_1 : Int) (of_decide_eq_true (by first | (with_reducible assumption) | assumption)) (by have h_ : (x5_1 : Int) < ((x0_1.length : Int) : Int) := of_decide_eq_true (by first | (with_reducible assumption) | assumption); first | exact h_ | (have e_ := (Kd.R_reads' HO_0.out).1; omega) | simpa using h_) (seg := [.int .i64 (wrap64 (x1_1 + 1))]) (j := 1) hcl16 hcc16 (show 2 ≤ 6 from by decide) (x' := (⟨(rd_T120 y373 x5_1).f0, wrap64 (x1_1 + 1), (rd_T120 y373 x5_1).f2, (⟨(rd_T120 y373 x5_1).f3.f0, (rd_T120 y373 x5_1).f3.f1, (rd_T120 y373 x5_1).f3.f2⟩ : S104)⟩ : S120)) (k120_mkM _ _ _ (⟨(rd_T120 y373 x5_1).f0, wrap64 (x1_1 + 1), (rd_T120 y373 x5_1).f2, (⟨(rd_T120 y373 x5_1).f3.f0, (rd_T120 y373 x5_1).f3.f1, (rd_T120 y373 x5_1).f3.f2⟩ : S104)⟩ : S120) ) (fun _ hk => hk); have hx16_1 := hcc16 1 _ rfl; (try simp only [show (k120).sz = 6 from rfl, Nat.mul_one, Nat.add_zero] at hx16_1); have hf16_1 := hfr16 1; (try simp only [show (k120).sz = 6 from rfl, Nat.mul_one, Nat.add_zero] at hf16_1); clear hcl16 hcc16 hfr16 hM16) | ((with_reducible refine gate_store (t := 3) (p := 23) rfl ?_); refine store_event (t := 3) (p := 23) (v := ?vo_w17) (w1 := (w15.setCell ⟨go5, (x5_1 : Int).toNat * 6 + 1, none⟩ (.int .i64 (wrap64 (x1_1 + 1))))) ?hg ?ho ?hn ?hr ?_; (case ho => rfl); (case hg => rfl); (case hn => rfl); (case hr => first | (go_simp; done) | (go_simp; rfl)); intro w17 hw; have hg : w15.grownBy w17 (some go5) := (by rw [hw]; exact HP16.2); have hp_ : Kd.R k120 120 w17 w0.heap.size (fun k_ => (P0_ k_ ∨ w.heap.size ≤ k_)) (.slice (some ⟨go5, 0, none⟩) x0_1.length co13) y374 := (by rw [hw, Ny374.out]; exact HP16.1); clear HP16; have n0_ := Aside0.mk (hp_); have n1_ := Aside0.mk ((by rw [hw]; exact below_set (HB.out) GB5.out : Below w0.heap.size w0 w17)); have n2_ := Aside0.mk (Kept.of_grown (S := (fun k_ => P0_ k_)) hg (by repeat (first | (with_reducible first | exact HK.out | apply Kept.alloc | apply Kept.drewN | apply Kept.drew) | exact HK.out)) (fun k_ e_ => (HO_0.out.1 k_ e_))); clear HO_0; clear HB; clear HK; have HO_0 := n0_; have HB := n1_; have HK := n2_; clear n0_ n1_ n2_; clear hg hw hp_) | ((with_reducible refine gate_callee (f := 88) rfl ?_); refine goesL_ (some 29) rfl rfl Try.func88 (by kernel_rfl) rfl #[.int .i64 (wrap64 ((wrap64 (x1_1 + 1)) + 1))] rfl (by (try simp only [List.map_toArray, List.map_cons, List.map_nil]); first | done | rfl | (simp only [List.length_drop, List.length_take]; rfl)) ?_; (with_reducible refine (laws_markText.calls k1 (wrap64 ((wrap64 (x1_1 + 1)) + 1)) t375 _ A7.out).mono ?_); rintro e w18 ⟨rfl, hb⟩; refine ⟨_, rfl, ?_⟩; have n0_ := Aside0.mk (Kd.R_below (by (with_reducible repeat (first | apply Kd.R_alloc | apply Kd.R_drewN | apply Kd.R_drew)); exact HO_0.out) hb); have n1_ := Aside0.mk (Kept.below (S := (fun k_ => P0_ k_)) (by repeat (first | (with_reducible first | exact HK.out | apply Kept.alloc | apply Kept.drewN | apply Kept.drew) | exact HK.out)) hb); have n2_ := Aside0.mk (below_step (by repeat (first | (with_reducible first | exact HB.out | apply below_alloc | apply pw_below_drewN | apply below_drew1) | exact HB.out)) hb); clear HO_0; clear HK; clear HB; have HO_0 := n0_; have HK := n1_; have HB := n2_; clear n0_ n1_ n2_; (try clear hb); (try clear hb2); (try clear hk); (try clear hi); have p8 : 0 ≤ (x5_1 : Int) := of_decide_eq_true (by first | (with_reducible assumption) | assumption); have q8 : (x5_1 : Int) < ((x0_1.length : Int) : Int) := of_decide_eq_true (by first | (with_reducible assumption) | assumption); obtain ⟨ce8, hcl8, hM8, hcc8, hfr8⟩ := Kd.R_elem HO_0.out z120 (x5_1 : Int) p8 q8; obtain rfl := k120_openM hM8; have hx8_0 : w18.cell? ⟨go5, (x5_1 : Int).toNat * 6, none⟩ = some (.int .i64 ((rd_T120 y374 x5_1).f0)) := hcc8 0 _ rfl; have hx8_1 : w18.cell? ⟨go5, (x5_1 : Int).toNat * 6 + 1, none⟩ = some (.int .i64 ((rd_T120 y374 x5_1).f1)) := hcc8 1 _ rfl; have hx8_2 : w18.cell? ⟨go5, (x5_1 : Int).toNat * 6 + 2, none⟩ = some (.string ((rd_T120 y374 x5_1).f2)) := hcc8 2 _ rfl; have hx8_3 : w18.cell? ⟨go5, (x5_1 : Int).toNat * 6 + 3, none⟩ = some (.int .i64 ((rd_T120 y374 x5_1).f3.f0)) := hcc8 3 _ rfl; have hx8_4 : w18.cell? ⟨go5, (x5_1 : Int).toNat * 6 + 4, none⟩ = some (.int .i64 ((rd_T120 y374 x5_1).f3.f1)) := hcc8 4 _ rfl; have hx8_5 : w18.cell? ⟨go5, (x5_1 : Int).toNat * 6 + 5, none⟩ = some (.string ((rd_T120 y374 x5_1).f3.f2)) := hcc8 5 _ rfl; have hf8_0 : w18.frozen? ⟨go5, (x5_1 : Int).toNat * 6, none⟩ = false := hfr8 0; have hf8_1 : w18.frozen? ⟨go5, (x5_1 : Int).toNat * 6 + 1, none⟩ = false := hfr8 1; have hf8_2 : w18.frozen? ⟨go5, (x5_1 : Int).toNat * 6 + 2, none⟩ = false := hfr8 2; have hf8_3 : w18.frozen? ⟨go5, (x5_1 : Int).toNat * 6 + 3, none⟩ = false := hfr8 3; have hf8_4 : w18.frozen? ⟨go5, (x5_1 : Int).toNat * 6 + 4, none⟩ = false := hfr8 4; have hf8_5 : w18.frozen? ⟨go5, (x5_1 : Int).toNat * 6 + 5, none⟩ = false := hfr8 5; clear hcl8 hcc8 hfr8 hM8; replace p8 := eq_true p8; replace q8 := eq_true q8; have HX19 := Aside0.mk (show Kd.R k120 120 w18 w0.heap.size (fun k_ => (P0_ k_ ∨ w.heap.size ≤ k_)) (.slice (some ⟨go5, 0, none⟩) x0_1.length co13) y374 from (by (with_reducible repeat (first | apply Kd.R_alloc | apply Kd.R_drewN | apply Kd.R_drew)); exact HO_0.out)); obtain ⟨ce19, hcl19, hM19, hcc19, hfr19⟩ := Kd.R_elem HX19.out z120 (x5_1 : Int) (of_decide_eq_true (by first | (with_reducible assumption) | assumption)) (by have h_ : (x5_1 : Int) < ((x0_1.length : Int) : Int) := of_decide_eq_true (by first | (with_reducible assumption) | assumption); first | exact h_ | (have e_ := (Kd.R_reads' HO_0.out).1; omega) | simpa using h_); obtain rfl := k120_openM hM19; have HP19 := Kd.R_seg HX19.out (x5_1 : Int) (of_decide_eq_true (by first | (with_reducible assumption) | assumption)) (by have h_ : (x5_1 : Int) < ((x0_1.length : Int) : Int) := of_decide_eq_true (by first | (with_reducible assumption) | assumption); first | exact h_ | (have e_ := (Kd.R_reads' HO_0.out).1; omega) | simpa using h_) (seg := [.string t375]) (j := 2) hcl19 hcc19 (show 3 ≤ 6 from by decide) (x' := (⟨(rd_T120 y374 x5_1).f0, (rd_T120 y374 x5_1).f1, t375, (⟨(rd_T120 y374 x5_1).f3.f0, (rd_T120 y374 x5_1).f3.f1, (rd_T120 y374 x5_1).f3.f2⟩ : S104)⟩ : S120)) (k120_mkM _ _ _ (⟨(rd_T120 y374 x5_1).f0, (rd_T120 y374 x5_1).f1, t375, (⟨(rd_T120 y374 x5_1).f3.f0, (rd_T120 y374 x5_1).f3.f1, (rd_T120 y374 x5_1).f3.f2⟩ : S104)⟩ : S120) ) (fun _ hk => hk); have hx19_2 := hcc19 2 _ rfl; (try simp only [show (k120).sz = 6 from rfl, Nat.mul_one, Nat.add_zero] at hx19_2); have hf19_2 := hfr19 2; (try simp only [show (k120).sz = 6 from rfl, Nat.mul_one, Nat.add_zero] at hf19_2); clear hcl19 hcc19 hfr19 hM19) | ((with_reducible refine gate_store (t := 9) (p := 31) rfl ?_); refine store_event (t := 9) (p := 31) (v := ?vo_w20) (w1 := (w18.setCell ⟨go5, (x5_1 : Int).toNat * 6 + 2, none⟩ (.string t375))) ?hg ?ho ?hn ?hr ?_; (case ho => rfl); (case hg => rfl); (case hn => rfl); (case hr => first | (go_simp; done) | (go_simp; rfl)); intro w20 hw; have hg : w18.grownBy w20 (some go5) := (by rw [hw]; exact HP19.2); have hp_ : Kd.R k120 120 w20 w0.heap.size (fun k_ => (P0_ k_ ∨ w.heap.size ≤ k_)) (.slice (some ⟨go5, 0, none⟩) x0_1.length co13) y376 := (by rw [hw, Ny376.out]; exact HP19.1); clear HP19; have n0_ := Aside0.mk (hp_); have n1_ := Aside0.mk ((by rw [hw]; exact below_set (HB.out) GB5.out : Below w0.heap.size w0 w20)); have n2_ := Aside0.mk (Kept.of_grown (S := (fun k_ => P0_ k_)) hg (by repeat (first | (with_reducible first | exact HK.out | apply Kept.alloc | apply Kept.drewN | apply Kept.drew) | exact HK.out)) (fun k_ e_ => (HO_0.out.1 k_ e_))); clear HO_0; clear HB; clear HK; have HO_0 := n0_; have HB := n1_; have HK := n2_; clear n0_ n1_ n2_; clear hg hw hp_; have p9 : 0 ≤ (x5_1 : Int) := of_decide_eq_true (by first | (with_reducible assumption) | assumption); have q9 : (x5_1 : Int) < ((x0_1.length : Int) : Int) := of_decide_eq_true (by first | (with_reducible assumption) | assumption); obtain ⟨ce9, hcl9, hM9, hcc9, hfr9⟩ := Kd.R_elem HO_0.out z120 (x5_1 : Int) p9 q9; obtain rfl := k120_openM hM9; have hx9_0 : w20.cell? ⟨go5, (x5_1 : Int).toNat * 6, none⟩ = some (.int .i64 ((rd_T120 y376 x5_1).f0)) := hcc9 0 _ rfl; have hx9_1 : w20.cell? ⟨go5, (x5_1 : Int).toNat * 6 + 1, none⟩ = some (.int .i64 ((rd_T120 y376 x5_1).f1)) := hcc9 1 _ rfl; have hx9_2 : w20.cell? ⟨go5, (x5_1 : Int).toNat * 6 + 2, none⟩ = some (.string ((rd_T120 y376 x5_1).f2)) := hcc9 2 _ rfl; have hx9_3 : w20.cell? ⟨go5, (x5_1 : Int).toNat * 6 + 3, none⟩ = some (.int .i64 ((rd_T120 y376 x5_1).f3.f0)) := hcc9 3 _ rfl; have hx9_4 : w20.cell? ⟨go5, (x5_1 : Int).toNat * 6 + 4, none⟩ = some (.int .i64 ((rd_T120 y376 x5_1).f3.f1)) := hcc9 4 _ rfl; have hx9_5 : w20.cell? ⟨go5, (x5_1 : Int).toNat * 6 + 5, none⟩ = some (.string ((rd_T120 y376 x5_1).f3.f2)) := hcc9 5 _ rfl; have hf9_0 : w20.frozen? ⟨go5, (x5_1 : Int).toNat * 6, none⟩ = false := hfr9 0; have hf9_1 : w20.frozen? ⟨go5, (x5_1 : Int).toNat * 6 + 1, none⟩ = false := hfr9 1; have hf9_2 : w20.frozen? ⟨go5, (x5_1 : Int).toNat * 6 + 2, none⟩ = false := hfr9 2; have hf9_3 : w20.frozen? ⟨go5, (x5_1 : Int).toNat * 6 + 3, none⟩ = false := hfr9 3; have hf9_4 : w20.frozen? ⟨go5, (x5_1 : Int).toNat * 6 + 4, none⟩ = false := hfr9 4; have hf9_5 : w20.frozen? ⟨go5, (x5_1 : Int).toNat * 6 + 5, none⟩ = false := hfr9 5; clear hcl9 hcc9 hfr9 hM9; replace p9 := eq_true p9; replace q9 := eq_true q9; have HX21 := Aside0.mk (show Kd.R k120 120 w20 w0.heap.size (fun k_ => (P0_ k_ ∨ w.heap.size ≤ k_)) (.slice (some ⟨go5, 0, none⟩) x0_1.length co13) y376 from (by (with_reducible repeat (first | apply Kd.R_alloc | apply Kd.R_drewN | apply Kd.R_drew)); exact HO_0.out)); obtain ⟨ce21, hcl21, hM21, hcc21, hfr21⟩ := Kd.R_elem HX21.out z120 (x5_1 : Int) (of_decide_eq_true (by first | (with_reducible assumption) | assumption)) (by have h_ : (x5_1 : Int) < ((x0_1.length : Int) : Int) := of_decide_eq_true (by first | (with_reducible assumption) | assumption); first | exact h_ | (have e_ := (Kd.R_reads' HO_0.out).1; omega) | simpa using h_); obtain rfl := k120_openM hM21; have HP21 := Kd.R_seg HX21.out (x5_1 : Int) (of_decide_eq_true (by first | (with_reducible assumption) | assumption)) (by have h_ : (x5_1 : Int) < ((x0_1.length : Int) : Int) := of_decide_eq_true (by first | (with_reducible assumption) | assumption); first | exact h_ | (have e_ := (Kd.R_reads' HO_0.out).1; omega) | simpa using h_) (seg := [.int .i64 (wrap64 ((wrap64 ((wrap64 (x1_1 + 1)) + 1)) + 1))]) (j := 3) hcl21 hcc21 (show 4 ≤ 6 from by decide) (x' := (⟨(rd_T120 y376 x5_1).f0, (rd_T120 y376 x5_1).f1, (rd_T120 y376 x5_1).f2, (⟨wrap64 ((wrap64 ((wrap64 (x1_1 + 1)) + 1)) + 1), (rd_T120 y376 x5_1).f3.f1, (rd_T120 y376 x5_1).f3.f2⟩ : S104)⟩ : S120)) (k120_mkM _ _ _ (⟨(rd_T120 y376 x5_1).f0, (rd_T120 y376 x5_1).f1, (rd_T120 y376 x5_1).f2, (⟨wrap64 ((wrap64 ((wrap64 (x1_1 + 1)) + 1)) + 1), (rd_T120 y376 x5_1).f3.f1, (rd_T120 y376 x5_1).f3.f2⟩ : S104)⟩ : S120) ) (fun _ hk => hk); have hx21_3 := hcc21 3 _ rfl; (try simp only [show (k120).sz = 6 from rfl, Nat.mul_one, Nat.add_zero] at hx21_3); have hf21_3 := hfr21 3; (try simp only [show (k120).sz = 6 from rfl, Nat.mul_one, Nat.add_zero] at hf21_3); clear hcl21 hcc21 hfr21 hM21) | ((with_reducible refine gate_store (t := 3) (p := 39) rfl ?_); refine store_event (t := 3) (p := 39) (v := ?vo_w22) (w1 := (w20.setCell ⟨go5, (x5_1 : Int).toNat * 6 + 3, none⟩ (.int .i64 (wrap64 ((wrap64 ((wrap64 (x1_1 + 1)) + 1)) + 1))))) ?hg ?ho ?hn ?hr ?_; (case ho => rfl); (case hg => rfl); (case hn => rfl); (case hr => first | (go_simp; done) | (go_simp; rfl)); intro w22 hw; have hg : w20.grownBy w22 (some go5) := (by rw [hw]; exact HP21.2); have hp_ : Kd.R k120 120 w22 w0.heap.size (fun k_ => (P0_ k_ ∨ w.heap.size ≤ k_)) (.slice (some ⟨go5, 0, none⟩) x0_1.length co13) y377 := (by rw [hw, Ny377.out]; exact HP21.1); clear HP21; have n0_ := Aside0.mk (hp_); have n1_ := Aside0.mk ((by rw [hw]; exact below_set (HB.out) GB5.out : Below w0.heap.size w0 w22)); have n2_ := Aside0.mk (Kept.of_grown (S := (fun k_ => P0_ k_)) hg (by repeat (first | (with_reducible first | exact HK.out | apply Kept.alloc | apply Kept.drewN | apply Kept.drew) | exact HK.out)) (fun k_ e_ => (HO_0.out.1 k_ e_))); clear HO_0; clear HB; clear HK; have HO_0 := n0_; have HB := n1_; have HK := n2_; clear n0_ n1_ n2_; clear hg hw hp_; have p10 : 0 ≤ (x5_1 : Int) := of_decide_eq_true (by first | (with_reducible assumption) | assumption); have q10 : (x5_1 : Int) < ((x0_1.length : Int) : Int) := of_decide_eq_true (by first | (with_reducible assumption) | assumption); obtain ⟨ce10, hcl10, hM10, hcc10, hfr10⟩ := Kd.R_elem HO_0.out z120 (x5_1 : Int) p10 q10; obtain rfl := k120_openM hM10; have hx10_0 : w22.cell? ⟨go5, (x5_1 : Int).toNat * 6, none⟩ = some (.int .i64 ((rd_T120 y377 x5_1).f0)) := hcc10 0 _ rfl; have hx10_1 : w22.cell? ⟨go5, (x5_1 : Int).toNat * 6 + 1, none⟩ = some (.int .i64 ((rd_T120 y377 x5_1).f1)) := hcc10 1 _ rfl; have hx10_2 : w22.cell? ⟨go5, (x5_1 : Int).toNat * 6 + 2, none⟩ = some (.string ((rd_T120 y377 x5_1).f2)) := hcc10 2 _ rfl; have hx10_3 : w22.cell? ⟨go5, (x5_1 : Int).toNat * 6 + 3, none⟩ = some (.int .i64 ((rd_T120 y377 x5_1).f3.f0)) := hcc10 3 _ rfl; have hx10_4 : w22.cell? ⟨go5, (x5_1 : Int).toNat * 6 + 4, none⟩ = some (.int .i64 ((rd_T120 y377 x5_1).f3.f1)) := hcc10 4 _ rfl; have hx10_5 : w22.cell? ⟨go5, (x5_1 : Int).toNat * 6 + 5, none⟩ = some (.string ((rd_T120 y377 x5_1).f3.f2)) := hcc10 5 _ rfl; have hf10_0 : w22.frozen? ⟨go5, (x5_1 : Int).toNat * 6, none⟩ = false := hfr10 0; have hf10_1 : w22.frozen? ⟨go5, (x5_1 : Int).toNat * 6 + 1, none⟩ = false := hfr10 1; have hf10_2 : w22.frozen? ⟨go5, (x5_1 : Int).toNat * 6 + 2, none⟩ = false := hfr10 2; have hf10_3 : w22.frozen? ⟨go5, (x5_1 : Int).toNat * 6 + 3, none⟩ = false := hfr10 3; have hf10_4 : w22.frozen? ⟨go5, (x5_1 : Int).toNat * 6 + 4, none⟩ = false := hfr10 4; have hf10_5 : w22.frozen? ⟨go5, (x5_1 : Int).toNat * 6 + 5, none⟩ = false := hfr10 5; clear hcl10 hcc10 hfr10 hM10; replace p10 := eq_true p10; replace q10 := eq_true q10; have HX23 := Aside0.mk (show Kd.R k120 120 w22 w0.heap.size (fun k_ => (P0_ k_ ∨ w.heap.size ≤ k_)) (.slice (some ⟨go5, 0, none⟩) x0_1.length co13) y377 from (by (with_reducible repeat (first | apply Kd.R_alloc | apply Kd.R_drewN | apply Kd.R_drew)); exact HO_0.out)); obtain ⟨ce23, hcl23, hM23, hcc23, hfr23⟩ := Kd.R_elem HX23.out z120 (x5_1 : Int) (of_decide_eq_true (by first | (with_reducible assumption) | assumption)) (by have h_ : (x5_1 : Int) < ((x0_1.length : Int) : Int) := of_decide_eq_true (by first | (with_reducible assumption) | assumption); first | exact h_ | (have e_ := (Kd.R_reads' HO_0.out).1; omega) | simpa using h_); obtain rfl := k120_openM hM23; have HP23 := Kd.R_seg HX23.out (x5_1 : Int) (of_decide_eq_true (by first | (with_reducible assumption) | assumption)) (by have h_ : (x5_1 : Int) < ((x0_1.length : Int) : Int) := of_decide_eq_true (by first | (with_reducible assumption) | assumption); first | exact h_ | (have e_ := (Kd.R_reads' HO_0.out).1; omega) | simpa using h_) (seg := [.int .i64 (wrap64 ((wrap64 ((wrap64 ((wrap64 (x1_1 + 1)) + 1)) + 1)) + 1))]) (j := 4) hcl23 hcc23 (show 5 ≤ 6 from by decide) (x' := (⟨(rd_T120 y377 x5_1).f0, (rd_T120 y377 x5_1).f1, (rd_T120 y377 x5_1).f2, (⟨(rd_T120 y377 x5_1).f3.f0, wrap64 ((wrap64 ((wrap64 ((wrap64 (x1_1 + 1)) + 1)) + 1)) + 1), (rd_T120 y377 x5_1).f3.f2⟩ : S104)⟩ : S120)) (k120_mkM _ _ _ (⟨(rd_T120 y377 x5_1).f0, (rd_T120 y377 x5_1).f1, (rd_T120 y377 x5_1).f2, (⟨(rd_T120 y377 x5_1).f3.f0, wrap64 ((wrap64 ((wrap64 ((wrap64 (x1_1 + 1)) + 1)) + 1)) + 1), (rd_T120 y377 x5_1).f3.f2⟩ : S104)⟩ : S120) ) (fun _ hk => hk); have hx23_4 := hcc23 4 _ rfl; (try simp only [show (k120).sz = 6 from rfl, Nat.mul_one, Nat.add_zero] at hx23_4); have hf23_4 := hfr23 4; (try simp only [show (k120).sz = 6 from rfl, Nat.mul_one, Nat.add_zero] at hf23_4); clear hcl23 hcc23 hfr23 hM23) | ((with_reducible refine gate_store (t := 2) (p := 47) rfl ?_); refine store_event (t := 2) (p := 47) (v := ?vo_w24) (w1 := (w22.setCell ⟨go5, (x5_1 : Int).toNat * 6 + 4, none⟩ (.int .i64 (wrap64 ((wrap64 ((wrap64 ((wrap64 (x1_1 + 1)) + 1)) + 1)) + 1))))) ?hg ?ho ?hn ?hr ?_; (case ho => rfl); (case hg => rfl); (case hn => rfl); (case hr => first | (go_simp; done) | (go_simp; rfl)); intro w24 hw; have hg : w22.grownBy w24 (some go5) := (by rw [hw]; exact HP23.2); have hp_ : Kd.R k120 120 w24 w0.heap.size (fun k_ => (P0_ k_ ∨ w.heap.size ≤ k_)) (.slice (some ⟨go5, 0, none⟩) x0_1.length co13) y378 := (by rw [hw, Ny378.out]; exact HP23.1); clear HP23; have n0_ := Aside0.mk (hp_); have n1_ := Aside0.mk ((by rw [hw]; exact below_set (HB.out) GB5.out : Below w0.heap.size w0 w24)); have n2_ := Aside0.mk (Kept.of_grown (S := (fun k_ => P0_ k_)) hg (by repeat (first | (with_reducible first | exact HK.out | apply Kept.alloc | apply Kept.drewN | apply Kept.drew) | exact HK.out)) (fun k_ e_ => (HO_0.out.1 k_ e_))); clear HO_0; clear HB; clear HK; have HO_0 := n0_; have HB := n1_; have HK := n2_; clear n0_ n1_ n2_; clear hg hw hp_) | ((with_reducible refine gate_callee (f := 88) rfl ?_); refine goesL_ (some 53) rfl rfl Try.func88 (by kernel_rfl) rfl #[.int .i64 (wrap64 ((wrap64 ((wrap64 ((wrap64 ((wrap64 (x1_1 + 1)) + 1)) + 1)) + 1)) + 1))] rfl (by (try simp only [List.map_toArray, List.map_cons, List.map_nil]); first | done | rfl | (simp only [List.length_drop, List.length_take]; rfl)) ?_; (with_reducible refine (laws_markText.calls k1 (wrap64 ((wrap64 ((wrap64 ((wrap64 ((wrap64 (x1_1 + 1)) + 1)) + 1)) + 1)) + 1)) t379 _ A11.out).mono ?_); rintro e w25 ⟨rfl, hb⟩; refine ⟨_, rfl, ?_⟩; have n0_ := Aside0.mk (Kd.R_below (by (with_reducible repeat (first | apply Kd.R_alloc | apply Kd.R_drewN | apply Kd.R_drew)); exact HO_0.out) hb); have n1_ := Aside0.mk (Kept.below (S := (fun k_ => P0_ k_)) (by repeat (first | (with_reducible first | exact HK.out | apply Kept.alloc | apply Kept.drewN | apply Kept.drew) | exact HK.out)) hb); have n2_ := Aside0.mk (below_step (by repeat (first | (with_reducible first | exact HB.out | apply below_alloc | apply pw_below_drewN | apply below_drew1) | exact HB.out)) hb); clear HO_0; clear HK; clear HB; have HO_0 := n0_; have HK := n1_; have HB := n2_; clear n0_ n1_ n2_; (try clear hb); (try clear hb2); (try clear hk); (try clear hi); have p12 : 0 ≤ (x5_1 : Int) := of_decide_eq_true (by first | (with_reducible assumption) | assumption); have q12 : (x5_1 : Int) < ((x0_1.length : Int) : Int) := of_decide_eq_true (by first | (with_reducible assumption) | assumption); obtain ⟨ce12, hcl12, hM12, hcc12, hfr12⟩ := Kd.R_elem HO_0.out z120 (x5_1 : Int) p12 q12; obtain rfl := k120_openM hM12; have hx12_0 : w25.cell? ⟨go5, (x5_1 : Int).toNat * 6, none⟩ = some (.int .i64 ((rd_T120 y378 x5_1).f0)) := hcc12 0 _ rfl; have hx12_1 : w25.cell? ⟨go5, (x5_1 : Int).toNat * 6 + 1, none⟩ = some (.int .i64 ((rd_T120 y378 x5_1).f1)) := hcc12 1 _ rfl; have hx12_2 : w25.cell? ⟨go5, (x5_1 : Int).toNat * 6 + 2, none⟩ = some (.string ((rd_T120 y378 x5_1).f2)) := hcc12 2 _ rfl; have hx12_3 : w25.cell? ⟨go5, (x5_1 : Int).toNat * 6 + 3, none⟩ = some (.int .i64 ((rd_T120 y378 x5_1).f3.f0)) := hcc12 3 _ rfl; have hx12_4 : w25.cell? ⟨go5, (x5_1 : Int).toNat * 6 + 4, none⟩ = some (.int .i64 ((rd_T120 y378 x5_1).f3.f1)) := hcc12 4 _ rfl; have hx12_5 : w25.cell? ⟨go5, (x5_1 : Int).toNat * 6 + 5, none⟩ = some (.string ((rd_T120 y378 x5_1).f3.f2)) := hcc12 5 _ rfl; have hf12_0 : w25.frozen? ⟨go5, (x5_1 : Int).toNat * 6, none⟩ = false := hfr12 0; have hf12_1 : w25.frozen? ⟨go5, (x5_1 : Int).toNat * 6 + 1, none⟩ = false := hfr12 1; have hf12_2 : w25.frozen? ⟨go5, (x5_1 : Int).toNat * 6 + 2, none⟩ = false := hfr12 2; have hf12_3 : w25.frozen? ⟨go5, (x5_1 : Int).toNat * 6 + 3, none⟩ = false := hfr12 3; have hf12_4 : w25.frozen? ⟨go5, (x5_1 : Int).toNat * 6 + 4, none⟩ = false := hfr12 4; have hf12_5 : w25.frozen? ⟨go5, (x5_1 : Int).toNat * 6 + 5, none⟩ = false := hfr12 5; clear hcl12 hcc12 hfr12 hM12; replace p12 := eq_true p12; replace q12 := eq_true q12; have HX26 := Aside0.mk (show Kd.R k120 120 w25 w0.heap.size (fun k_ => (P0_ k_ ∨ w.heap.size ≤ k_)) (.slice (some ⟨go5, 0, none⟩) x0_1.length co13) y378 from (by (with_reducible repeat (first | apply Kd.R_alloc | apply Kd.R_drewN | apply Kd.R_drew)); exact HO_0.out)); obtain ⟨ce26, hcl26, hM26, hcc26, hfr26⟩ := Kd.R_elem HX26.out z120 (x5_1 : Int) (of_decide_eq_true (by first | (with_reducible assumption) | assumption)) (by have h_ : (x5_1 : Int) < ((x0_1.length : Int) : Int) := of_decide_eq_true (by first | (with_reducible assumption) | assumption); first | exact h_ | (have e_ := (Kd.R_reads' HO_0.out).1; omega) | simpa using h_); obtain rfl := k120_openM hM26; have HP26 := Kd.R_seg HX26.out (x5_1 : Int) (of_decide_eq_true (by first | (with_reducible assumption) | assumption)) (by have h_ : (x5_1 : Int) < ((x0_1.length : Int) : Int) := of_decide_eq_true (by first | (with_reducible assumption) | assumption); first | exact h_ | (have e_ := (Kd.R_reads' HO_0.out).1; omega) | simpa using h_) (seg := [.string t379]) (j := 5) hcl26 hcc26 (show 6 ≤ 6 from by decide) (x' := (⟨(rd_T120 y378 x5_1).f0, (rd_T120 y378 x5_1).f1, (rd_T120 y378 x5_1).f2, (⟨(rd_T120 y378 x5_1).f3.f0, (rd_T120 y378 x5_1).f3.f1, t379⟩ : S104)⟩ : S120)) (k120_mkM _ _ _ (⟨(rd_T120 y378 x5_1).f0, (rd_T120 y378 x5_1).f1, (rd_T120 y378 x5_1).f2, (⟨(rd_T120 y378 x5_1).f3.f0, (rd_T120 y378 x5_1).f3.f1, t379⟩ : S104)⟩ : S120) ) (fun _ hk => hk); have hx26_5 := hcc26 5 _ rfl; (try simp only [show (k120).sz = 6 from rfl, Nat.mul_one, Nat.add_zero] at hx26_5); have hf26_5 := hfr26 5; (try simp only [show (k120).sz = 6 from rfl, Nat.mul_one, Nat.add_zero] at hf26_5); clear hcl26 hcc26 hfr26 hM26) | ((with_reducible refine gate_store (t := 9) (p := 56) rfl ?_); refine store_event (t := 9) (p := 56) (v := ?vo_w27) (w1 := (w25.setCell ⟨go5, (x5_1 : Int).toNat * 6 + 5, none⟩ (.string t379))) ?hg ?ho ?hn ?hr ?_; (case ho => rfl); (case hg => rfl); (case hn => rfl); (case hr => first | (go_simp; done) | (go_simp; rfl)); intro w27 hw; have hg : w25.grownBy w27 (some go5) := (by rw [hw]; exact HP26.2); have hp_ : Kd.R k120 120 w27 w0.heap.size (fun k_ => (P0_ k_ ∨ w.heap.size ≤ k_)) (.slice (some ⟨go5, 0, none⟩) x0_1.length co13) y380 := (by rw [hw, Ny380.out]; exact HP26.1); clear HP26; have n0_ := Aside0.mk (hp_); have n1_ := Aside0.mk ((by rw [hw]; exact below_set (HB.out) GB5.out : Below w0.heap.size w0 w27)); have n2_ := Aside0.mk (Kept.of_grown (S := (fun k_ => P0_ k_)) hg (by repeat (first | (with_reducible first | exact HK.out | apply Kept.alloc | apply Kept.drewN | apply Kept.drew) | exact HK.out)) (fun k_ e_ => (HO_0.out.1 k_ e_))); clear HO_0; clear HB; clear HK; have HO_0 := n0_; have HB := n1_; have HK := n2_; clear n0_ n1_ n2_; clear hg hw hp_))
          go_roundg k1
          case measure => have := HK1.out; omega
          case rel => exact ⟨(y380), (wrap64 ((wrap64 ((wrap64 ((wrap64 ((wrap64 ((wrap64 (x1_1 + 1)) + 1)) + 1)) + 1)) + 1)) + 1)), (wrap64 (x5_1 + 1)), (by first | rfl | (simp; done) | (simp [*]; done)), (by first | rfl | (simp; done) | (simp [*]; done)), H', ⟨by have := HK1.out; omega⟩, ⟨by (with_reducible repeat (first | apply Kd.R_alloc | apply Kd.R_drewN | apply Kd.R_drew)); exact HO_0.out⟩, ⟨by repeat (first | (with_reducible first | exact HK.out | apply Kept.alloc | apply Kept.drewN | apply Kept.drew) | exact HK.out)⟩, ⟨by repeat (first | (with_reducible first | exact HB.out | apply below_alloc | apply pw_below_drewN | apply below_drew1) | exact HB.out)⟩⟩
        · rw [if_neg c4] at H
          exact absurd H (by simp)
      · rw [if_neg c3] at H
        have c3b0 : decide (x5_1 < (x0_1.length : Int)) = false := decide_eq_false c3
        clear c3
        simp only [Option.some.injEq, Prod.mk.injEq] at H
        obtain ⟨rfl, rfl⟩ := H
        obtain ⟨Ao28, co28, eo28⟩ := Kd.R_slice HO_0.out
        subst eo28
        go_wp2
        go_ret
        exact ⟨by first | rfl | (simp [errW_none, errW_some] <;> rfl) | (simp [*, errW_none, errW_some] <;> rfl), by (with_reducible repeat (first | apply Kd.R_alloc | apply Kd.R_drewN | apply Kd.R_drew)); exact HO_0.out, by repeat (first | (with_reducible first | exact HB.out | apply below_alloc | apply pw_below_drewN | apply below_drew1) | exact HB.out), by repeat (first | (with_reducible first | exact HK.out | apply Kept.alloc | apply Kept.drewN | apply Kept.drew) | exact HK.out)⟩
end Go.Proofs.Ytoncacdehhmpaaa.P
namespace Go.Proofs.Ytoncacdehhmpaaa.P
open Go.RowKit Go.Proofs.YtoncacdehhmpaaaW.PrintWords Go.Proofs.YtoncacdehhmpaaaW.PrintLast Go.Proofs.YtoncacdehhmpaaaW.PrintMore
attribute [local go_sem] max2_int min2_int max_two min_two max_three min_three max_four min_four
set_option linter.unusedVariables false
set_option linter.unusedSimpArgs false
def laws_markPattern.f (k : Nat) (a0_0 : Bool) (a0_1 : ByteArray) (l0_2 : List (S120)) (a1 : Int) : Option (Int × (List (S120))) := (laws_markTermS.f k l0_2 a1).bind fun bt382 => (some (bt382.1, bt382.2))
theorem laws_markPattern.mono : ∀ a0 a1 a2 a3 k, LeO (laws_markPattern.f k a0 a1 a2 a3) (laws_markPattern.f (k + 1) a0 a1 a2 a3) := by
  intro a0 a1 a2 a3 k
  unfold laws_markPattern.f
  repeat' first
      | (with_reducible exact laws_markTermS.mono _ _ _)
      | (with_reducible exact LeO.refl _)
      | (with_reducible exact LeO.none _)
      | (with_reducible refine LeO.ite ?_ ?_)
      | (with_reducible refine LeO.bind ?_ (fun _ => ?_))
      | exact laws_markTermS.mono _ _ _
      | exact LeO.none _
      | refine LeO.ite ?_ ?_
      | refine LeO.bind ?_ (fun _ => ?_)
set_option maxHeartbeats 8000000 in
set_option maxRecDepth 100000 in
theorem laws_markPattern.calls (k : Nat) (a0_0 : Bool) (a0_1 : ByteArray) (P0_2_ : Nat → Prop) (u9000_ : Value) (l0_2 : List (S120)) (a1 : Int) (r1 : Int) (r2 : List (S120)) (w0 w : World) (hB : Below w0.heap.size w0 w) (ho0_2 : Kd.R k120 120 w w0.heap.size P0_2_ u9000_ l0_2) (h : laws_markPattern.f k a0_0 a0_1 l0_2 a1 = some (r1, r2)) :
    Calls Try.prog 28 #[.agg #[.bool a0_0, .string a0_1, u9000_], .int .i64 a1] w fun e w' => e = .returned (.int .i64 r1) ∧ Kd.R k120 120 w' w0.heap.size (fun k_ => (P0_2_ k_ ∨ w.heap.size ≤ k_)) u9000_ r2 ∧ Below w0.heap.size w0 w' ∧ Kept w w' (fun k_ => P0_2_ k_) := by
  have hu61 := Try.underlying61
  have HO0_2 := Aside0.mk (show Kd.R k120 120 w w0.heap.size (fun k_ => (P0_2_ k_ ∨ w.heap.size ≤ k_)) u9000_ l0_2 from Kd.R_mono ho0_2 (fun k_ hk => (.inl hk)))
  have HK := Aside0.mk (Kept.refl w (fun k_ => P0_2_ k_))
  have HW0 := Aside0.mk hB.size
  have HB := Aside0.mk hB
  clear hB
  have H : ((laws_markTermS.f k l0_2 a1).bind fun bt382 => (some (bt382.1, bt382.2))) = some (r1, r2) := h
  clear h
  replace H := Option.bind_eq_some_iff.mp H
  obtain ⟨⟨t382, t383⟩, A30, H⟩ := H
  replace H : (some (t382, t383)) = some (r1, r2) := H
  have A3 := Aside0.mk A30
  clear A30
  simp only [Option.some.injEq, Prod.mk.injEq] at H
  obtain ⟨rfl, rfl⟩ := H
  obtain ⟨Ao4, co4, eo4⟩ := Kd.R_slice HO0_2.out
  subst eo4
  go_enter Try.func28, Try.ntmps28
  go_wp2_with (first | ((with_reducible refine gate_dst (N := 2) rfl ?_); refine box_event ?hg (N := 2) ?hd (cs := #[.bool a0_0, .string a0_1, .slice Ao4 l0_2.length co4]) (t := 61) ?hr ?_; (case hd => rfl); (case hg => rfl); (case hr => first | (go_simp; done) | (go_simp; rfl)); intro gb381 hg w5 hbox hb; have n0_ := Aside0.mk (Kd.R_below (by (with_reducible repeat (first | apply Kd.R_alloc | apply Kd.R_drewN | apply Kd.R_drew)); exact HO0_2.out) hb); have n1_ := Aside0.mk (Kept.below (S := (fun k_ => P0_2_ k_)) (by repeat (first | (with_reducible first | exact HK.out | apply Kept.alloc | apply Kept.drewN | apply Kept.drew) | exact HK.out)) hb); have n2_ := Aside0.mk (below_step (by repeat (first | (with_reducible first | exact HB.out | apply below_alloc | apply pw_below_drewN | apply below_drew1) | exact HB.out)) hb); have n3_ := Aside0.mk (hbox); have n4_ := Aside0.mk ((by rw [hg]; exact (by first | exact HK.out.1 | exact (show Kept w _ (fun k_ => P0_2_ k_) from by repeat (first | (with_reducible first | exact HK.out | apply Kept.alloc | apply Kept.drewN | apply Kept.drew) | exact HK.out)).1) : w.heap.size ≤ gb381)); have n5_ := Aside0.mk ((by rw [hg]; exact (below_size (by repeat (first | (with_reducible first | exact HB.out | apply below_alloc | apply pw_below_drewN | apply below_drew1) | exact HB.out))) : w0.heap.size ≤ gb381)); clear HO0_2; clear HK; clear HB; have HO0_2 := n0_; have HK := n1_; have HB := n2_; have BK381 := n3_; have GW381 := n4_; have GE381 := n5_; clear n0_ n1_ n2_ n3_ n4_ n5_; clear hb hbox hg; have hcz6_0 : w5.cell? ⟨gb381, 0, none⟩ = some (.bool a0_0) := (blk_cell BK381.out 0).trans rfl; have hcz6_1 : w5.cell? ⟨gb381, 1, none⟩ = some (.string a0_1) := (blk_cell BK381.out 1).trans rfl; have hcz6_2 : w5.cell? ⟨gb381, 2, none⟩ = some (.slice Ao4 l0_2.length co4) := (blk_cell BK381.out 2).trans rfl; have hfz6_0 := blk_frozen BK381.out 0; have hfz6_1 := blk_frozen BK381.out 1; have hfz6_2 := blk_frozen BK381.out 2) | ((with_reducible refine gate_callee (f := 76) rfl ?_); refine goesL_ (some 8) rfl rfl Try.func76 (by kernel_rfl) rfl #[.slice Ao4 l0_2.length co4, .int .i64 a1] rfl (by (try simp only [List.map_toArray, List.map_cons, List.map_nil]); first | done | rfl | (simp only [List.length_drop, List.length_take]; rfl)) ?_; (with_reducible refine (laws_markTermS.calls k (fun k_ => some k_ = (.slice Ao4 l0_2.length co4 : Value).ownBlock) (.slice Ao4 l0_2.length co4) l0_2 a1 t382 t383 w0 _ ?side1 ?side2 A3.out).mono ?_); (case side1 => repeat (first | (with_reducible first | exact HB.out | apply below_alloc | apply pw_below_drewN | apply below_drew1 | refine below_set ?_ GE381.out) | exact HB.out)); (case side2 => exact Kd.R_tight rfl HO0_2.out); rintro e w7 ⟨rfl, hy0, hb, hkp⟩; refine ⟨_, rfl, ?_⟩; have n0_ := Aside0.mk (Kd.R_reok rfl hy0 (fun k_ e_ => HO0_2.out.1 k_ e_)); have n1_ := Aside0.mk (blk_kept (by (with_reducible repeat (first | refine blk_drewN ?_ _ | refine blk_drew ?_ | refine blk_alloc ?_ _)); exact BK381.out) hkp (fun hs_ => (fun e_ => (Kd.R_ne HO0_2.out BK381.out (by decide)) e_) hs_)); have n2_ := Aside0.mk (Kept.then_ (S := (fun k_ => P0_2_ k_)) (by repeat (first | (with_reducible first | exact HK.out | apply Kept.alloc | apply Kept.drewN | apply Kept.drew | refine Kept.setCell ?_ (.inr GW381.out) _) | exact HK.out)) hkp (fun k_ hs_ => (fun e_ => (HO0_2.out.1 k_ e_.symm)) hs_)); have n3_ := Aside0.mk (hb); clear HO0_2; clear BK381; clear HK; clear HB; have HO0_2 := n0_; have BK381 := n1_; have HK := n2_; have HB := n3_; clear n0_ n1_ n2_ n3_; (try clear hb); (try clear hkp); (try clear hy0)))
  go_ret
  exact ⟨by first | rfl | (simp [errW_none, errW_some] <;> rfl) | (simp [*, errW_none, errW_some] <;> rfl), by (with_reducible repeat (first | apply Kd.R_alloc | apply Kd.R_drewN | apply Kd.R_drew)); exact HO0_2.out, by repeat (first | (with_reducible first | exact HB.out | apply below_alloc | apply pw_below_drewN | apply below_drew1 | refine below_set ?_ GE381.out) | exact HB.out), by repeat (first | (with_reducible first | exact HK.out | apply Kept.alloc | apply Kept.drewN | apply Kept.drew | refine Kept.setCell ?_ (.inr GW381.out) _) | exact HK.out)⟩
def laws_markAlphaTestS.l0 : Nat → List (S106) → Int → Int → Option (Int × (List (S106)))
  | 0, _, _, _ => none
  | k + 1, x0, x1, x5 => if x5 < (x0.length : Int) then (if 0 ≤ x5 then ((some (x0.set (x5 : Int).toNat (⟨x1, (rd_T106 x0 x5).f1, (rd_T106 x0 x5).f2, (⟨(rd_T106 x0 x5).f3.f0, (rd_T106 x0 x5).f3.f1, (rd_T106 x0 x5).f3.f2⟩ : S104)⟩ : S106) : List (S106))).bind fun y384 => ((some (y384.set (x5 : Int).toNat (⟨(rd_T106 y384 x5).f0, wrap64 (x1 + 1), (rd_T106 y384 x5).f2, (⟨(rd_T106 y384 x5).f3.f0, (rd_T106 y384 x5).f3.f1, (rd_T106 y384 x5).f3.f2⟩ : S104)⟩ : S106) : List (S106))).bind fun y385 => ((some (y385.set (x5 : Int).toNat (⟨(rd_T106 y385 x5).f0, (rd_T106 y385 x5).f1, wrap64 ((wrap64 (x1 + 1)) + 1), (⟨(rd_T106 y385 x5).f3.f0, (rd_T106 y385 x5).f3.f1, (rd_T106 y385 x5).f3.f2⟩ : S104)⟩ : S106) : List (S106))).bind fun y386 => ((some (y386.set (x5 : Int).toNat (⟨(rd_T106 y386 x5).f0, (rd_T106 y386 x5).f1, (rd_T106 y386 x5).f2, (⟨wrap64 ((wrap64 ((wrap64 (x1 + 1)) + 1)) + 1), (rd_T106 y386 x5).f3.f1, (rd_T106 y386 x5).f3.f2⟩ : S104)⟩ : S106) : List (S106))).bind fun y387 => ((some (y387.set (x5 : Int).toNat (⟨(rd_T106 y387 x5).f0, (rd_T106 y387 x5).f1, (rd_T106 y387 x5).f2, (⟨(rd_T106 y387 x5).f3.f0, wrap64 ((wrap64 ((wrap64 ((wrap64 (x1 + 1)) + 1)) + 1)) + 1), (rd_T106 y387 x5).f3.f2⟩ : S104)⟩ : S106) : List (S106))).bind fun y388 => ((laws_markText.f k (wrap64 ((wrap64 ((wrap64 ((wrap64 ((wrap64 (x1 + 1)) + 1)) + 1)) + 1)) + 1))).bind fun t389 => (laws_markAlphaTestS.l0 k (y388.set (x5 : Int).toNat (⟨(rd_T106 y388 x5).f0, (rd_T106 y388 x5).f1, (rd_T106 y388 x5).f2, (⟨(rd_T106 y388 x5).f3.f0, (rd_T106 y388 x5).f3.f1, t389⟩ : S104)⟩ : S106)) (wrap64 ((wrap64 ((wrap64 ((wrap64 ((wrap64 ((wrap64 (x1 + 1)) + 1)) + 1)) + 1)) + 1)) + 1)) (wrap64 (x5 + 1))))))))) else (none)) else (some (x1, x0))
def laws_markAlphaTestS.f (k : Nat) (l0 : List (S106)) (a1 : Int) : Option (Int × (List (S106))) := laws_markAlphaTestS.l0 k l0 a1 0
theorem laws_markAlphaTestS.mono_l : ∀ k, (∀ y0 y1 y2, LeO (laws_markAlphaTestS.l0 k y0 y1 y2) (laws_markAlphaTestS.l0 (k + 1) y0 y1 y2))
  | 0 => fun _ _ _ r h => by simp [laws_markAlphaTestS.l0] at h
  | k + 1 => by
    have ih0 := laws_markAlphaTestS.mono_l k
    · intro y0 y1 y2
      unfold laws_markAlphaTestS.l0
      repeat' first
      | (with_reducible exact ih0 _ _ _)
      | (with_reducible exact laws_markText.mono _ _)
      | (with_reducible exact LeO.refl _)
      | (with_reducible exact LeO.none _)
      | (with_reducible refine LeO.ite ?_ ?_)
      | (with_reducible refine LeO.bind ?_ (fun _ => ?_))
      | exact ih0 _ _ _
      | exact laws_markText.mono _ _
      | exact LeO.none _
      | refine LeO.ite ?_ ?_
      | refine LeO.bind ?_ (fun _ => ?_)
theorem laws_markAlphaTestS.mono : ∀ a0 a1 k, LeO (laws_markAlphaTestS.f k a0 a1) (laws_markAlphaTestS.f (k + 1) a0 a1) := by
  intro a0 a1 k
  have ih0 := laws_markAlphaTestS.mono_l k
  unfold laws_markAlphaTestS.f
  repeat' first
      | (with_reducible exact ih0 _ _ _)
      | (with_reducible exact laws_markText.mono _ _)
      | (with_reducible exact LeO.refl _)
      | (with_reducible exact LeO.none _)
      | (with_reducible refine LeO.ite ?_ ?_)
      | (with_reducible refine LeO.bind ?_ (fun _ => ?_))
      | exact ih0 _ _ _
      | exact laws_markText.mono _ _
      | exact LeO.none _
      | refine LeO.ite ?_ ?_
      | refine LeO.bind ?_ (fun _ => ?_)
set_option maxHeartbeats 8000000 in
set_option maxRecDepth 100000 in
theorem laws_markAlphaTestS.calls (k : Nat) (P0_ : Nat → Prop) (u9000_ : Value) (l0 : List (S106)) (a1 : Int) (r1 : Int) (r2 : List (S106)) (w0 w : World) (hB : Below w0.heap.size w0 w) (ho0 : Kd.R k106 106 w w0.heap.size P0_ u9000_ l0) (h : laws_markAlphaTestS.f k l0 a1 = some (r1, r2)) :
    Calls Try.prog 77 #[u9000_, .int .i64 a1] w fun e w' => e = .returned (.int .i64 r1) ∧ Kd.R k106 106 w' w0.heap.size (fun k_ => (P0_ k_ ∨ w.heap.size ≤ k_)) u9000_ r2 ∧ Below w0.heap.size w0 w' ∧ Kept w w' (fun k_ => P0_ k_) := by
  have HO0 := Aside0.mk (show Kd.R k106 106 w w0.heap.size (fun k_ => (P0_ k_ ∨ w.heap.size ≤ k_)) u9000_ l0 from Kd.R_mono ho0 (fun k_ hk => (.inl hk)))
  have HK := Aside0.mk (Kept.refl w (fun k_ => P0_ k_))
  have HW0 := Aside0.mk hB.size
  have HB := Aside0.mk hB
  clear hB
  have H : (laws_markAlphaTestS.l0 k l0 a1 0) = some (r1, r2) := h
  clear h
  have H' := Aside0.mk H
  clear H
  go_enter Try.func77, Try.ntmps77
  go_wp2
  go_loopg [1, 5] k (fun kq v1 v5 w' => ∃ (x0_1 : List (S106)) (x1_1 : Int) (x5_1 : Int), v1 = .int .i64 x1_1 ∧ v5 = .int .i64 x5_1 ∧ Aside0 (laws_markAlphaTestS.l0 kq x0_1 x1_1 x5_1 = some (r1, r2)) ∧ Aside0 (kq ≤ k) ∧ Aside0 (Kd.R k106 106 w' w0.heap.size (fun k_ => (P0_ k_ ∨ w.heap.size ≤ k_)) u9000_ x0_1) ∧ Aside0 (Kept w w' (fun k_ => P0_ k_)) ∧ Aside0 (Below w0.heap.size w0 w'))
  case atStart => exact ⟨(l0), (a1), (0), (by first | rfl | (simp; done) | (simp [*]; done)), (by first | rfl | (simp; done) | (simp [*]; done)), H', ⟨Nat.le_refl _⟩, ⟨by (with_reducible repeat (first | apply Kd.R_alloc | apply Kd.R_drewN | apply Kd.R_drew)); exact HO0.out⟩, ⟨by repeat (first | (with_reducible first | exact HK.out | apply Kept.alloc | apply Kept.drewN | apply Kept.drew) | exact HK.out)⟩, ⟨by repeat (first | (with_reducible first | exact HB.out | apply below_alloc | apply pw_below_drewN | apply below_drew1) | exact HB.out)⟩⟩
  case round =>
    clear H'
    try clear p2
    obtain ⟨x0_1, x1_1, x5_1, rfl, rfl, HA, HK1, HO_0, HK, HB⟩ := hrel
    cases gk with
    | zero => exact absurd HA.out (by simp [laws_markAlphaTestS.l0])
    | succ k1 =>
      have H := HA.out
      clear HA
      simp only [laws_markAlphaTestS.l0] at H
      by_cases c3 : x5_1 < (x0_1.length : Int)
      · rw [if_pos c3] at H
        have c3b0 : decide (x5_1 < (x0_1.length : Int)) = true := decide_eq_true c3
        clear c3
        by_cases c4 : 0 ≤ x5_1
        · rw [if_pos c4] at H
          have c4b0 : decide (0 ≤ x5_1) = true := decide_eq_true c4
          clear c4
          obtain ⟨y384, hy384⟩ : ∃ y_ : List (S106), y_ = (x0_1.set (x5_1 : Int).toNat (⟨x1_1, (rd_T106 x0_1 x5_1).f1, (rd_T106 x0_1 x5_1).f2, (⟨(rd_T106 x0_1 x5_1).f3.f0, (rd_T106 x0_1 x5_1).f3.f1, (rd_T106 x0_1 x5_1).f3.f2⟩ : S104)⟩ : S106)) := ⟨_, rfl⟩
          replace H : ((some (y384.set (x5_1 : Int).toNat (⟨(rd_T106 y384 x5_1).f0, wrap64 (x1_1 + 1), (rd_T106 y384 x5_1).f2, (⟨(rd_T106 y384 x5_1).f3.f0, (rd_T106 y384 x5_1).f3.f1, (rd_T106 y384 x5_1).f3.f2⟩ : S104)⟩ : S106) : List (S106))).bind fun y385 => ((some (y385.set (x5_1 : Int).toNat (⟨(rd_T106 y385 x5_1).f0, (rd_T106 y385 x5_1).f1, wrap64 ((wrap64 (x1_1 + 1)) + 1), (⟨(rd_T106 y385 x5_1).f3.f0, (rd_T106 y385 x5_1).f3.f1, (rd_T106 y385 x5_1).f3.f2⟩ : S104)⟩ : S106) : List (S106))).bind fun y386 => ((some (y386.set (x5_1 : Int).toNat (⟨(rd_T106 y386 x5_1).f0, (rd_T106 y386 x5_1).f1, (rd_T106 y386 x5_1).f2, (⟨wrap64 ((wrap64 ((wrap64 (x1_1 + 1)) + 1)) + 1), (rd_T106 y386 x5_1).f3.f1, (rd_T106 y386 x5_1).f3.f2⟩ : S104)⟩ : S106) : List (S106))).bind fun y387 => ((some (y387.set (x5_1 : Int).toNat (⟨(rd_T106 y387 x5_1).f0, (rd_T106 y387 x5_1).f1, (rd_T106 y387 x5_1).f2, (⟨(rd_T106 y387 x5_1).f3.f0, wrap64 ((wrap64 ((wrap64 ((wrap64 (x1_1 + 1)) + 1)) + 1)) + 1), (rd_T106 y387 x5_1).f3.f2⟩ : S104)⟩ : S106) : List (S106))).bind fun y388 => ((laws_markText.f k1 (wrap64 ((wrap64 ((wrap64 ((wrap64 ((wrap64 (x1_1 + 1)) + 1)) + 1)) + 1)) + 1))).bind fun t389 => (laws_markAlphaTestS.l0 k1 (y388.set (x5_1 : Int).toNat (⟨(rd_T106 y388 x5_1).f0, (rd_T106 y388 x5_1).f1, (rd_T106 y388 x5_1).f2, (⟨(rd_T106 y388 x5_1).f3.f0, (rd_T106 y388 x5_1).f3.f1, t389⟩ : S104)⟩ : S106)) (wrap64 ((wrap64 ((wrap64 ((wrap64 ((wrap64 ((wrap64 (x1_1 + 1)) + 1)) + 1)) + 1)) + 1)) + 1)) (wrap64 (x5_1 + 1)))))))) = some (r1, r2) := by first | (rw [hy384]; with_reducible exact H) | (have H2_ := (Option.bind_some _ _).symm.trans H; rw [hy384]; with_reducible exact H2_) | (have H2_ := (Option.bind_some _ _).symm.trans H; with_reducible exact H2_) | with_reducible exact H | (rw [hy384]; exact H) | exact H
          have Ny384 := Aside0.mk hy384
          clear hy384
          obtain ⟨y385, hy385⟩ : ∃ y_ : List (S106), y_ = (y384.set (x5_1 : Int).toNat (⟨(rd_T106 y384 x5_1).f0, wrap64 (x1_1 + 1), (rd_T106 y384 x5_1).f2, (⟨(rd_T106 y384 x5_1).f3.f0, (rd_T106 y384 x5_1).f3.f1, (rd_T106 y384 x5_1).f3.f2⟩ : S104)⟩ : S106)) := ⟨_, rfl⟩
          replace H : ((some (y385.set (x5_1 : Int).toNat (⟨(rd_T106 y385 x5_1).f0, (rd_T106 y385 x5_1).f1, wrap64 ((wrap64 (x1_1 + 1)) + 1), (⟨(rd_T106 y385 x5_1).f3.f0, (rd_T106 y385 x5_1).f3.f1, (rd_T106 y385 x5_1).f3.f2⟩ : S104)⟩ : S106) : List (S106))).bind fun y386 => ((some (y386.set (x5_1 : Int).toNat (⟨(rd_T106 y386 x5_1).f0, (rd_T106 y386 x5_1).f1, (rd_T106 y386 x5_1).f2, (⟨wrap64 ((wrap64 ((wrap64 (x1_1 + 1)) + 1)) + 1), (rd_T106 y386 x5_1).f3.f1, (rd_T106 y386 x5_1).f3.f2⟩ : S104)⟩ : S106) : List (S106))).bind fun y387 => ((some (y387.set (x5_1 : Int).toNat (⟨(rd_T106 y387 x5_1).f0, (rd_T106 y387 x5_1).f1, (rd_T106 y387 x5_1).f2, (⟨(rd_T106 y387 x5_1).f3.f0, wrap64 ((wrap64 ((wrap64 ((wrap64 (x1_1 + 1)) + 1)) + 1)) + 1), (rd_T106 y387 x5_1).f3.f2⟩ : S104)⟩ : S106) : List (S106))).bind fun y388 => ((laws_markText.f k1 (wrap64 ((wrap64 ((wrap64 ((wrap64 ((wrap64 (x1_1 + 1)) + 1)) + 1)) + 1)) + 1))).bind fun t389 => (laws_markAlphaTestS.l0 k1 (y388.set (x5_1 : Int).toNat (⟨(rd_T106 y388 x5_1).f0, (rd_T106 y388 x5_1).f1, (rd_T106 y388 x5_1).f2, (⟨(rd_T106 y388 x5_1).f3.f0, (rd_T106 y388 x5_1).f3.f1, t389⟩ : S104)⟩ : S106)) (wrap64 ((wrap64 ((wrap64 ((wrap64 ((wrap64 ((wrap64 (x1_1 + 1)) + 1)) + 1)) + 1)) + 1)) + 1)) (wrap64 (x5_1 + 1))))))) = some (r1, r2) := by first | (rw [hy385]; with_reducible exact H) | (have H2_ := (Option.bind_some _ _).symm.trans H; rw [hy385]; with_reducible exact H2_) | (have H2_ := (Option.bind_some _ _).symm.trans H; with_reducible exact H2_) | with_reducible exact H | (rw [hy385]; exact H) | exact H
          have Ny385 := Aside0.mk hy385
          clear hy385
          obtain ⟨y386, hy386⟩ : ∃ y_ : List (S106), y_ = (y385.set (x5_1 : Int).toNat (⟨(rd_T106 y385 x5_1).f0, (rd_T106 y385 x5_1).f1, wrap64 ((wrap64 (x1_1 + 1)) + 1), (⟨(rd_T106 y385 x5_1).f3.f0, (rd_T106 y385 x5_1).f3.f1, (rd_T106 y385 x5_1).f3.f2⟩ : S104)⟩ : S106)) := ⟨_, rfl⟩
          replace H : ((some (y386.set (x5_1 : Int).toNat (⟨(rd_T106 y386 x5_1).f0, (rd_T106 y386 x5_1).f1, (rd_T106 y386 x5_1).f2, (⟨wrap64 ((wrap64 ((wrap64 (x1_1 + 1)) + 1)) + 1), (rd_T106 y386 x5_1).f3.f1, (rd_T106 y386 x5_1).f3.f2⟩ : S104)⟩ : S106) : List (S106))).bind fun y387 => ((some (y387.set (x5_1 : Int).toNat (⟨(rd_T106 y387 x5_1).f0, (rd_T106 y387 x5_1).f1, (rd_T106 y387 x5_1).f2, (⟨(rd_T106 y387 x5_1).f3.f0, wrap64 ((wrap64 ((wrap64 ((wrap64 (x1_1 + 1)) + 1)) + 1)) + 1), (rd_T106 y387 x5_1).f3.f2⟩ : S104)⟩ : S106) : List (S106))).bind fun y388 => ((laws_markText.f k1 (wrap64 ((wrap64 ((wrap64 ((wrap64 ((wrap64 (x1_1 + 1)) + 1)) + 1)) + 1)) + 1))).bind fun t389 => (laws_markAlphaTestS.l0 k1 (y388.set (x5_1 : Int).toNat (⟨(rd_T106 y388 x5_1).f0, (rd_T106 y388 x5_1).f1, (rd_T106 y388 x5_1).f2, (⟨(rd_T106 y388 x5_1).f3.f0, (rd_T106 y388 x5_1).f3.f1, t389⟩ : S104)⟩ : S106)) (wrap64 ((wrap64 ((wrap64 ((wrap64 ((wrap64 ((wrap64 (x1_1 + 1)) + 1)) + 1)) + 1)) + 1)) + 1)) (wrap64 (x5_1 + 1)))))) = some (r1, r2) := by first | (rw [hy386]; with_reducible exact H) | (have H2_ := (Option.bind_some _ _).symm.trans H; rw [hy386]; with_reducible exact H2_) | (have H2_ := (Option.bind_some _ _).symm.trans H; with_reducible exact H2_) | with_reducible exact H | (rw [hy386]; exact H) | exact H
          have Ny386 := Aside0.mk hy386
          clear hy386
          obtain ⟨y387, hy387⟩ : ∃ y_ : List (S106), y_ = (y386.set (x5_1 : Int).toNat (⟨(rd_T106 y386 x5_1).f0, (rd_T106 y386 x5_1).f1, (rd_T106 y386 x5_1).f2, (⟨wrap64 ((wrap64 ((wrap64 (x1_1 + 1)) + 1)) + 1), (rd_T106 y386 x5_1).f3.f1, (rd_T106 y386 x5_1).f3.f2⟩ : S104)⟩ : S106)) := ⟨_, rfl⟩
          replace H : ((some (y387.set (x5_1 : Int).toNat (⟨(rd_T106 y387 x5_1).f0, (rd_T106 y387 x5_1).f1, (rd_T106 y387 x5_1).f2, (⟨(rd_T106 y387 x5_1).f3.f0, wrap64 ((wrap64 ((wrap64 ((wrap64 (x1_1 + 1)) + 1)) + 1)) + 1), (rd_T106 y387 x5_1).f3.f2⟩ : S104)⟩ : S106) : List (S106))).bind fun y388 => ((laws_markText.f k1 (wrap64 ((wrap64 ((wrap64 ((wrap64 ((wrap64 (x1_1 + 1)) + 1)) + 1)) + 1)) + 1))).bind fun t389 => (laws_markAlphaTestS.l0 k1 (y388.set (x5_1 : Int).toNat (⟨(rd_T106 y388 x5_1).f0, (rd_T106 y388 x5_1).f1, (rd_T106 y388 x5_1).f2, (⟨(rd_T106 y388 x5_1).f3.f0, (rd_T106 y388 x5_1).f3.f1, t389⟩ : S104)⟩ : S106)) (wrap64 ((wrap64 ((wrap64 ((wrap64 ((wrap64 ((wrap64 (x1_1 + 1)) + 1)) + 1)) + 1)) + 1)) + 1)) (wrap64 (x5_1 + 1))))) = some (r1, r2) := by first | (rw [hy387]; with_reducible exact H) | (have H2_ := (Option.bind_some _ _).symm.trans H; rw [hy387]; with_reducible exact H2_) | (have H2_ := (Option.bind_some _ _).symm.trans H; with_reducible exact H2_) | with_reducible exact H | (rw [hy387]; exact H) | exact H
          have Ny387 := Aside0.mk hy387
          clear hy387
          obtain ⟨y388, hy388⟩ : ∃ y_ : List (S106), y_ = (y387.set (x5_1 : Int).toNat (⟨(rd_T106 y387 x5_1).f0, (rd_T106 y387 x5_1).f1, (rd_T106 y387 x5_1).f2, (⟨(rd_T106 y387 x5_1).f3.f0, wrap64 ((wrap64 ((wrap64 ((wrap64 (x1_1 + 1)) + 1)) + 1)) + 1), (rd_T106 y387 x5_1).f3.f2⟩ : S104)⟩ : S106)) := ⟨_, rfl⟩
          replace H : ((laws_markText.f k1 (wrap64 ((wrap64 ((wrap64 ((wrap64 ((wrap64 (x1_1 + 1)) + 1)) + 1)) + 1)) + 1))).bind fun t389 => (laws_markAlphaTestS.l0 k1 (y388.set (x5_1 : Int).toNat (⟨(rd_T106 y388 x5_1).f0, (rd_T106 y388 x5_1).f1, (rd_T106 y388 x5_1).f2, (⟨(rd_T106 y388 x5_1).f3.f0, (rd_T106 y388 x5_1).f3.f1, t389⟩ : S104)⟩ : S106)) (wrap64 ((wrap64 ((wrap64 ((wrap64 ((wrap64 ((wrap64 (x1_1 + 1)) + 1)) + 1)) + 1)) + 1)) + 1)) (wrap64 (x5_1 + 1)))) = some (r1, r2) := by first | (rw [hy388]; with_reducible exact H) | (have H2_ := (Option.bind_some _ _).symm.trans H; rw [hy388]; with_reducible exact H2_) | (have H2_ := (Option.bind_some _ _).symm.trans H; with_reducible exact H2_) | with_reducible exact H | (rw [hy388]; exact H) | exact H
          have Ny388 := Aside0.mk hy388
          clear hy388
          replace H := Option.bind_eq_some_iff.mp H
          obtain ⟨t389, A100, H⟩ := H
          replace H : (laws_markAlphaTestS.l0 k1 (y388.set (x5_1 : Int).toNat (⟨(rd_T106 y388 x5_1).f0, (rd_T106 y388 x5_1).f1, (rd_T106 y388 x5_1).f2, (⟨(rd_T106 y388 x5_1).f3.f0, (rd_T106 y388 x5_1).f3.f1, t389⟩ : S104)⟩ : S106)) (wrap64 ((wrap64 ((wrap64 ((wrap64 ((wrap64 ((wrap64 (x1_1 + 1)) + 1)) + 1)) + 1)) + 1)) + 1)) (wrap64 (x5_1 + 1))) = some (r1, r2) := H
          have A10 := Aside0.mk A100
          clear A100
          obtain ⟨y390, hy390⟩ : ∃ y_ : List (S106), y_ = (y388.set (x5_1 : Int).toNat (⟨(rd_T106 y388 x5_1).f0, (rd_T106 y388 x5_1).f1, (rd_T106 y388 x5_1).f2, (⟨(rd_T106 y388 x5_1).f3.f0, (rd_T106 y388 x5_1).f3.f1, t389⟩ : S104)⟩ : S106)) := ⟨_, rfl⟩
          replace H : (laws_markAlphaTestS.l0 k1 y390 (wrap64 ((wrap64 ((wrap64 ((wrap64 ((wrap64 ((wrap64 (x1_1 + 1)) + 1)) + 1)) + 1)) + 1)) + 1)) (wrap64 (x5_1 + 1))) = some (r1, r2) := by first | (rw [hy390]; with_reducible exact H) | (have H2_ := (Option.bind_some _ _).symm.trans H; rw [hy390]; with_reducible exact H2_) | (have H2_ := (Option.bind_some _ _).symm.trans H; with_reducible exact H2_) | with_reducible exact H | (rw [hy390]; exact H) | exact H
          have Ny390 := Aside0.mk hy390
          clear hy390
          have H' := Aside0.mk H
          clear H
          obtain ⟨Ao12, co12, eo12⟩ := Kd.R_slice HO_0.out
          subst eo12
          have p5 : 0 ≤ (x5_1 : Int) := of_decide_eq_true (by first | (with_reducible assumption) | assumption)
          have q5 : (x5_1 : Int) < ((x0_1.length : Int) : Int) := of_decide_eq_true (by first | (with_reducible assumption) | assumption)
          obtain ⟨go5, co5, eo5, gb5, gl5, cl5, HG5⟩ := Kd.R_form HO_0.out (by omega)
          (first | cases eo5 | (injection eo5 with ea_ en_ ec_; (first | subst ea_ | (injection ea_ with ea_; subst ea_)); subst ec_; clear en_))
          have GB5 := Aside0.mk gb5
          have GG5 := Aside0.mk HG5
          clear gb5 gl5 HG5
          have HMgo5 := Aside0.mk (show (P0_ go5 ∨ w.heap.size ≤ go5) from (HO_0.out.1 _ rfl))
          obtain ⟨ce5, hcl5, hM5, hcc5, hfr5⟩ := Kd.R_elem HO_0.out z106 (x5_1 : Int) p5 q5
          obtain rfl := k106_openM hM5
          have hx5_0 : wr.cell? ⟨go5, (x5_1 : Int).toNat * 6, none⟩ = some (.int .i64 ((rd_T106 x0_1 x5_1).f0)) := hcc5 0 _ rfl
          have hx5_1 : wr.cell? ⟨go5, (x5_1 : Int).toNat * 6 + 1, none⟩ = some (.int .i64 ((rd_T106 x0_1 x5_1).f1)) := hcc5 1 _ rfl
          have hx5_2 : wr.cell? ⟨go5, (x5_1 : Int).toNat * 6 + 2, none⟩ = some (.int .i64 ((rd_T106 x0_1 x5_1).f2)) := hcc5 2 _ rfl
          have hx5_3 : wr.cell? ⟨go5, (x5_1 : Int).toNat * 6 + 3, none⟩ = some (.int .i64 ((rd_T106 x0_1 x5_1).f3.f0)) := hcc5 3 _ rfl
          have hx5_4 : wr.cell? ⟨go5, (x5_1 : Int).toNat * 6 + 4, none⟩ = some (.int .i64 ((rd_T106 x0_1 x5_1).f3.f1)) := hcc5 4 _ rfl
          have hx5_5 : wr.cell? ⟨go5, (x5_1 : Int).toNat * 6 + 5, none⟩ = some (.string ((rd_T106 x0_1 x5_1).f3.f2)) := hcc5 5 _ rfl
          have hf5_0 : wr.frozen? ⟨go5, (x5_1 : Int).toNat * 6, none⟩ = false := hfr5 0
          have hf5_1 : wr.frozen? ⟨go5, (x5_1 : Int).toNat * 6 + 1, none⟩ = false := hfr5 1
          have hf5_2 : wr.frozen? ⟨go5, (x5_1 : Int).toNat * 6 + 2, none⟩ = false := hfr5 2
          have hf5_3 : wr.frozen? ⟨go5, (x5_1 : Int).toNat * 6 + 3, none⟩ = false := hfr5 3
          have hf5_4 : wr.frozen? ⟨go5, (x5_1 : Int).toNat * 6 + 4, none⟩ = false := hfr5 4
          have hf5_5 : wr.frozen? ⟨go5, (x5_1 : Int).toNat * 6 + 5, none⟩ = false := hfr5 5
          clear hcl5 hcc5 hfr5 hM5
          replace p5 := eq_true p5
          replace q5 := eq_true q5
          have HX13 := Aside0.mk (show Kd.R k106 106 wr w0.heap.size (fun k_ => (P0_ k_ ∨ w.heap.size ≤ k_)) (.slice (some ⟨go5, 0, none⟩) x0_1.length co12) x0_1 from (by (with_reducible repeat (first | apply Kd.R_alloc | apply Kd.R_drewN | apply Kd.R_drew)); exact HO_0.out))
          obtain ⟨ce13, hcl13, hM13, hcc13, hfr13⟩ := Kd.R_elem HX13.out z106 (x5_1 : Int) (of_decide_eq_true (by first | (with_reducible assumption) | assumption)) (by have h_ : (x5_1 : Int) < ((x0_1.length : Int) : Int) := of_decide_eq_true (by first | (with_reducible assumption) | assumption); first | exact h_ | (have e_ := (Kd.R_reads' HO_0.out).1; omega) | simpa using h_)
          obtain rfl := k106_openM hM13
          have HP13 := Kd.R_seg HX13.out (x5_1 : Int) (of_decide_eq_true (by first | (with_reducible assumption) | assumption)) (by have h_ : (x5_1 : Int) < ((x0_1.length : Int) : Int) := of_decide_eq_true (by first | (with_reducible assumption) | assumption); first | exact h_ | (have e_ := (Kd.R_reads' HO_0.out).1; omega) | simpa using h_) (seg := [.int .i64 x1_1]) (j := 0) hcl13 hcc13 (show 1 ≤ 6 from by decide) (x' := (⟨x1_1, (rd_T106 x0_1 x5_1).f1, (rd_T106 x0_1 x5_1).f2, (⟨(rd_T106 x0_1 x5_1).f3.f0, (rd_T106 x0_1 x5_1).f3.f1, (rd_T106 x0_1 x5_1).f3.f2⟩ : S104)⟩ : S106)) (k106_mkM _ _ _ (⟨x1_1, (rd_T106 x0_1 x5_1).f1, (rd_T106 x0_1 x5_1).f2, (⟨(rd_T106 x0_1 x5_1).f3.f0, (rd_T106 x0_1 x5_1).f3.f1, (rd_T106 x0_1 x5_1).f3.f2⟩ : S104)⟩ : S106) ) (fun _ hk => hk)
          have hx13_0 := hcc13 0 _ rfl
          (try simp only [show (k106).sz = 6 from rfl, Nat.mul_one, Nat.add_zero] at hx13_0)
          have hf13_0 := hfr13 0
          (try simp only [show (k106).sz = 6 from rfl, Nat.mul_one, Nat.add_zero] at hf13_0)
          clear hcl13 hcc13 hfr13 hM13
          go_wp2_with (first | ((with_reducible refine gate_store (t := 3) (p := 16) rfl ?_); refine store_event (t := 3) (p := 16) (v := ?vo_w14) (w1 := (wr.setCell ⟨go5, (x5_1 : Int).toNat * 6, none⟩ (.int .i64 x1_1))) ?hg ?ho ?hn ?hr ?_; (case ho => rfl); (case hg => rfl); (case hn => rfl); (case hr => first | (go_simp; done) | (go_simp; rfl)); intro w14 hw; have hg : wr.grownBy w14 (some go5) := (by rw [hw]; exact HP13.2); have hp_ : Kd.R k106 106 w14 w0.heap.size (fun k_ => (P0_ k_ ∨ w.heap.size ≤ k_)) (.slice (some ⟨go5, 0, none⟩) x0_1.length co12) y384 := (by rw [hw, Ny384.out]; exact HP13.1); clear HP13; have n0_ := Aside0.mk (hp_); have n1_ := Aside0.mk ((by rw [hw]; exact below_set (HB.out) GB5.out : Below w0.heap.size w0 w14)); have n2_ := Aside0.mk (Kept.of_grown (S := (fun k_ => P0_ k_)) hg (by repeat (first | (with_reducible first | exact HK.out | apply Kept.alloc | apply Kept.drewN | apply Kept.drew) | exact HK.out)) (fun k_ e_ => (HO_0.out.1 k_ e_))); clear HO_0; clear HB; clear HK; have HO_0 := n0_; have HB := n1_; have HK := n2_; clear n0_ n1_ n2_; clear hg hw hp_; have p6 : 0 ≤ (x5_1 : Int) := of_decide_eq_true (by first | (with_reducible assumption) | assumption); have q6 : (x5_1 : Int) < ((x0_1.length : Int) : Int) := of_decide_eq_true (by first | (with_reducible assumption) | assumption); obtain ⟨ce6, hcl6, hM6, hcc6, hfr6⟩ := Kd.R_elem HO_0.out z106 (x5_1 : Int) p6 q6; obtain rfl := k106_openM hM6; have hx6_0 : w14.cell? ⟨go5, (x5_1 : Int).toNat * 6, none⟩ = some (.int .i64 ((rd_T106 y384 x5_1).f0)) := hcc6 0 _ rfl; have hx6_1 : w14.cell? ⟨go5, (x5_1 : Int).toNat * 6 + 1, none⟩ = some (.int .i64 ((rd_T106 y384 x5_1).f1)) := hcc6 1 _ rfl; have hx6_2 : w14.cell? ⟨go5, (x5_1 : Int).toNat * 6 + 2, none⟩ = some (.int .i64 ((rd_T106 y384 x5_1).f2)) := hcc6 2 _ rfl; have hx6_3 : w14.cell? ⟨go5, (x5_1 : Int).toNat * 6 + 3, none⟩ = some (.int .i64 ((rd_T106 y384 x5_1).f3.f0)) := hcc6 3 _ rfl; have hx6_4 : w14.cell? ⟨go5, (x5_1 : Int).toNat * 6 + 4, none⟩ = some (.int .i64 ((rd_T106 y384 x5_1).f3.f1)) := hcc6 4 _ rfl; have hx6_5 : w14.cell? ⟨go5, (x5_1 : Int).toNat * 6 + 5, none⟩ = some (.string ((rd_T106 y384 x5_1).f3.f2)) := hcc6 5 _ rfl; have hf6_0 : w14.frozen? ⟨go5, (x5_1 : Int).toNat * 6, none⟩ = false := hfr6 0; have hf6_1 : w14.frozen? ⟨go5, (x5_1 : Int).toNat * 6 + 1, none⟩ = false := hfr6 1; have hf6_2 : w14.frozen? ⟨go5, (x5_1 : Int).toNat * 6 + 2, none⟩ = false := hfr6 2; have hf6_3 : w14.frozen? ⟨go5, (x5_1 : Int).toNat * 6 + 3, none⟩ = false := hfr6 3; have hf6_4 : w14.frozen? ⟨go5, (x5_1 : Int).toNat * 6 + 4, none⟩ = false := hfr6 4; have hf6_5 : w14.frozen? ⟨go5, (x5_1 : Int).toNat * 6 + 5, none⟩ = false := hfr6 5; clear hcl6 hcc6 hfr6 hM6; replace p6 := eq_true p6; replace q6 := eq_true q6; have HX15 := Aside0.mk (show Kd.R k106 106 w14 w0.heap.size (fun k_ => (P0_ k_ ∨ w.heap.size ≤ k_)) (.slice (some ⟨go5, 0, none⟩) x0_1.length co12) y384 from (by (with_reducible repeat (first | apply Kd.R_alloc | apply Kd.R_drewN | apply Kd.R_drew)); exact HO_0.out)); obtain ⟨ce15, hcl15, hM15, hcc15, hfr15⟩ := Kd.R_elem HX15.out z106 (x5_1 : Int) (of_decide_eq_true (by first | (with_reducible assumption) | assumption)) (by have h_ : (x5_1 : Int) < ((x0_1.length : Int) : Int) := of_decide_eq_true (by first | (with_reducible assumption) | assumption); first | exact h_ | (have e_ := (Kd.R_reads' HO_0.out).1; omega) | simpa using h_); obtain rfl := k106_openM hM15; have HP15 := Kd.R_seg HX15.out (x5_1 : Int) (of_decide_eq_true (by first | (with_reducible assumption) | assumption)) (by have h_ : (x5_1 : Int) < ((x0_1.length : Int) : Int) := of_decide_eq_true (by first | (with_reducible assumption) | assumption); first | exact h_ | (have e_ := (Kd.R_reads' HO_0.out).1; omega) | simpa using h_) (seg := [.int .i64 (wrap64 (x1_1 + 1))]) (j := 1) hcl15 hcc15 (show 2 ≤ 6 from by decide) (x' := (⟨(rd_T106 y384 x5_1).f0, wrap64 (x1_1 + 1), (rd_T106 y384 x5_1).f2, (⟨(rd_T106 y384 x5_1).f3.f0, (rd_T106 y384 x5_1).f3.f1, (rd_T106 y384 x5_1).f3.f2⟩ : S104)⟩ : S106)) (k106_mkM _ _ _ (⟨(rd_T106 y384 x5_1).f0, wrap64 (x1_1 + 1), (rd_T106 y384 x5_1).f2, (⟨(rd_T106 y384 x5_1).f3.f0, (rd_T106 y384 x5_1).f3.f1, (rd_T106 y384 x5_1).f3.f2⟩ : S104)⟩ : S106) ) (fun _ hk => hk); have hx15_1 := hcc15 1 _ rfl; (try simp only [show (k106).sz = 6 from rfl, Nat.mul_one, Nat.add_zero] at hx15_1); have hf15_1 := hfr15 1; (try simp only [show (k106).sz = 6 from rfl, Nat.mul_one, Nat.add_zero] at hf15_1); clear hcl15 hcc15 hfr15 hM15) | ((with_reducible refine gate_store (t := 3) (p := 23) rfl ?_); refine store_event (t := 3) (p := 23) (v := ?vo_w16) (w1 := (w14.setCell ⟨go5, (x5_1 : Int).toNat * 6 + 1, none⟩ (.int .i64 (wrap64 (x1_1 + 1))))) ?hg ?ho ?hn ?hr ?_; (case ho => rfl); (case hg => rfl); (case hn => rfl); (case hr => first | (go_simp; done) | (go_simp; rfl)); intro w16 hw; have hg : w14.grownBy w16 (some go5) := (by rw [hw]; exact HP15.2); have hp_ : Kd.R k106 106 w16 w0.heap.size (fun k_ => (P0_ k_ ∨ w.heap.size ≤ k_)) (.slice (some ⟨go5, 0, none⟩) x0_1.length co12) y385 := (by rw [hw, Ny385.out]; exact HP15.1); clear HP15; have n0_ := Aside0.mk (hp_); have n1_ := Aside0.mk ((by rw [hw]; exact below_set (HB.out) GB5.out : Below w0.heap.size w0 w16)); have n2_ := Aside0.mk (Kept.of_grown (S := (fun k_ => P0_ k_)) hg (by repeat (first | (with_reducible first | exact HK.out | apply Kept.alloc | apply Kept.drewN | apply Kept.drew) | exact HK.out)) (fun k_ e_ => (HO_0.out.1 k_ e_))); clear HO_0; clear HB; clear HK; have HO_0 := n0_; have HB := n1_; have HK := n2_; clear n0_ n1_ n2_; clear hg hw hp_; have p7 : 0 ≤ (x5_1 : Int) := of_decide_eq_true (by first | (with_reducible assumption) | assumption); have q7 : (x5_1 : Int) < ((x0_1.length : Int) : Int) := of_decide_eq_true (by first | (with_reducible assumption) | assumption); obtain ⟨ce7, hcl7, hM7, hcc7, hfr7⟩ := Kd.R_elem HO_0.out z106 (x5_1 : Int) p7 q7; obtain rfl := k106_openM hM7; have hx7_0 : w16.cell? ⟨go5, (x5_1 : Int).toNat * 6, none⟩ = some (.int .i64 ((rd_T106 y385 x5_1).f0)) := hcc7 0 _ rfl; have hx7_1 : w16.cell? ⟨go5, (x5_1 : Int).toNat * 6 + 1, none⟩ = some (.int .i64 ((rd_T106 y385 x5_1).f1)) := hcc7 1 _ rfl; have hx7_2 : w16.cell? ⟨go5, (x5_1 : Int).toNat * 6 + 2, none⟩ = some (.int .i64 ((rd_T106 y385 x5_1).f2)) := hcc7 2 _ rfl; have hx7_3 : w16.cell? ⟨go5, (x5_1 : Int).toNat * 6 + 3, none⟩ = some (.int .i64 ((rd_T106 y385 x5_1).f3.f0)) := hcc7 3 _ rfl; have hx7_4 : w16.cell? ⟨go5, (x5_1 : Int).toNat * 6 + 4, none⟩ = some (.int .i64 ((rd_T106 y385 x5_1).f3.f1)) := hcc7 4 _ rfl; have hx7_5 : w16.cell? ⟨go5, (x5_1 : Int).toNat * 6 + 5, none⟩ = some (.string ((rd_T106 y385 x5_1).f3.f2)) := hcc7 5 _ rfl; have hf7_0 : w16.frozen? ⟨go5, (x5_1 : Int).toNat * 6, none⟩ = false := hfr7 0; have hf7_1 : w16.frozen? ⟨go5, (x5_1 : Int).toNat * 6 + 1, none⟩ = false := hfr7 1; have hf7_2 : w16.frozen? ⟨go5, (x5_1 : Int).toNat * 6 + 2, none⟩ = false := hfr7 2; have hf7_3 : w16.frozen? ⟨go5, (x5_1 : Int).toNat * 6 + 3, none⟩ = false := hfr7 3; have hf7_4 : w16.frozen? ⟨go5, (x5_1 : Int).toNat * 6 + 4, none⟩ = false := hfr7 4; have hf7_5 : w16.frozen? ⟨go5, (x5_1 : Int).toNat * 6 + 5, none⟩ = false := hfr7 5; clear hcl7 hcc7 hfr7 hM7; replace p7 := eq_true p7; replace q7 := eq_true q7; have HX17 := Aside0.mk (show Kd.R k106 106 w16 w0.heap.size (fun k_ => (P0_ k_ ∨ w.heap.size ≤ k_)) (.slice (some ⟨go5, 0, none⟩) x0_1.length co12) y385 from (by (with_reducible repeat (first | apply Kd.R_alloc | apply Kd.R_drewN | apply Kd.R_drew)); exact HO_0.out)); obtain ⟨ce17, hcl17, hM17, hcc17, hfr17⟩ := Kd.R_elem HX17.out z106 (x5_1 : Int) (of_decide_eq_true (by first | (with_reducible assumption) | assumption)) (by have h_ : (x5_1 : Int) < ((x0_1.length : Int) : Int) := of_decide_eq_true (by first | (with_reducible assumption) | assumption); first | exact h_ | (have e_ := (Kd.R_reads' HO_0.out).1; omega) | simpa using h_); obtain rfl := k106_openM hM17; have HP17 := Kd.R_seg HX17.out (x5_1 : Int) (of_decide_eq_true (by first | (with_reducible assumption) | assumption)) (by have h_ : (x5_1 : Int) < ((x0_1.length : Int) : Int) := of_decide_eq_true (by first | (with_reducible assumption) | assumption); first | exact h_ | (have e_ := (Kd.R_reads' HO_0.out).1; omega) | simpa using h_) (seg := [.int .i64 (wrap64 ((wrap64 (x1_1 + 1)) + 1))]) (j := 2) hcl17 hcc17 (show 3 ≤ 6 from by decide) (x' := (⟨(rd_T106 y385 x5_1).f0, (rd_T106 y385 x5_1).f1, wrap64 ((wrap64 (x1_1 + 1)) + 1), (⟨(rd_T106 y385 x5_1).f3.f0, (rd_T106 y385 x5_1).f3.f1, (rd_T106 y385 x5_1).f3.f2⟩ : S104)⟩ : S106)) (k106_mkM _ _ _ (⟨(rd_T106 y385 x5_1).f0, (rd_T106 y385 x5_1).f1, wrap64 ((wrap64 (x1_1 + 1)) + 1), (⟨(rd_T106 y385 x5_1).f3.f0, (rd_T106 y385 x5_1).f3.f1, (rd_T106 y385 x5_1).f3.f2⟩ : S104)⟩ : S106) ) (fun _ hk => hk); have hx17_2 := hcc17 2 _ rfl; (try simp only [show (k106).sz = 6 from rfl, Nat.mul_one, Nat.add_zero] at hx17_2); have hf17_2 := hfr17 2; (try simp only [show (k106).sz = 6 from rfl, Nat.mul_one, Nat.add_zero] at hf17_2); clear hcl17 hcc17 hfr17 hM17) | ((with_reducible refine gate_store (t := 3) (p := 30) rfl ?_); refine store_event (t := 3) (p := 30) (v := ?vo_w18) (w1 := (w16.setCell ⟨go5, (x5_1 : Int).toNat * 6 + 2, none⟩ (.int .i64 (wrap64 ((wrap64 (x1_1 + 1)) + 1))))) ?hg ?ho ?hn ?hr ?_; (case ho => rfl); (case hg => rfl); (case hn => rfl); (case hr => first | (go_simp; done) | (go_simp; rfl)); intro w18 hw; have hg : w16.grownBy w18 (some go5) := (by rw [hw]; exact HP17.2); have hp_ : Kd.R k106 106 w18 w0.heap.size (fun k_ => (P0_ k_ ∨ w.heap.size ≤ k_)) (.slice (some ⟨go5, 0, none⟩) x0_1.length co12) y386 := (by rw [hw, Ny386.out]; exact HP17.1); clear HP17; have n0_ := Aside0.mk (hp_); have n1_ := Aside0.mk ((by rw [hw]; exact below_set (HB.out) GB5.out : Below w0.heap.size w0 w18)); have n2_ := Aside0.mk (Kept.of_grown (S := (fun k_ => P0_ k_)) hg (by repeat (first | (with_reducible first | exact HK.out | apply Kept.alloc | apply Kept.drewN | apply Kept.drew) | exact HK.out)) (fun k_ e_ => (HO_0.out.1 k_ e_))); clear HO_0; clear HB; clear HK; have HO_0 := n0_; have HB := n1_; have HK := n2_; clear n0_ n1_ n2_; clear hg hw hp_; have p8 : 0 ≤ (x5_1 : Int) := of_decide_eq_true (by first | (with_reducible assumption) | assumption); have q8 : (x5_1 : Int) < ((x0_1.length : Int) : Int) := of_decide_eq_true (by first | (with_reducible assumption) | assumption); obtain ⟨ce8, hcl8, hM8, hcc8, hfr8⟩ := Kd.R_elem HO_0.out z106 (x5_1 : Int) p8 q8; obtain rfl := k106_openM hM8; have hx8_0 : w18.cell? ⟨go5, (x5_1 : Int).toNat * 6, none⟩ = some (.int .i64 ((rd_T106 y386 x5_1).f0)) := hcc8 0 _ rfl; have hx8_1 : w18.cell? ⟨go5, (x5_1 : Int).toNat * 6 + 1, none⟩ = some (.int .i64 ((rd_T106 y386 x5_1).f1)) := hcc8 1 _ rfl; have hx8_2 : w18.cell? ⟨go5, (x5_1 : Int).toNat * 6 + 2, none⟩ = some (.int .i64 ((rd_T106 y386 x5_1).f2)) := hcc8 2 _ rfl; have hx8_3 : w18.cell? ⟨go5, (x5_1 : Int).toNat * 6 + 3, none⟩ = some (.int .i64 ((rd_T106 y386 x5_1).f3.f0)) := hcc8 3 _ rfl; have hx8_4 : w18.cell? ⟨go5, (x5_1 : Int).toNat * 6 + 4, none⟩ = some (.int .i64 ((rd_T106 y386 x5_1).f3.f1)) := hcc8 4 _ rfl; have hx8_5 : w18.cell? ⟨go5, (x5_1 : Int).toNat * 6 + 5, none⟩ = some (.string ((rd_T106 y386 x5_1).f3.f2)) := hcc8 5 _ rfl; have hf8_0 : w18.frozen? ⟨go5, (x5_1 : Int).toNat * 6, none⟩ = false := hfr8 0; have hf8_1 : w18.frozen? ⟨go5, (x5_1 : Int).toNat * 6 + 1, none⟩ = false := hfr8 1; have hf8_2 : w18.frozen? ⟨go5, (x5_1 : Int).toNat * 6 + 2, none⟩ = false := hfr8 2; have hf8_3 : w18.frozen? ⟨go5, (x5_1 : Int).toNat * 6 + 3, none⟩ = false := hfr8 3; have hf8_4 : w18.frozen? ⟨go5, (x5_1 : Int).toNat * 6 + 4, none⟩ = false := hfr8 4; have hf8_5 : w18.frozen? ⟨go5, (x5_1 : Int).toNat * 6 + 5, none⟩ = false := hfr8 5; clear hcl8 hcc8 hfr8 hM8; replace p8 := eq_true p8; replace q8 := eq_true q8; have HX19 := Aside0.mk (show Kd.R k106 106 w18 w0.heap.size (fun k_ => (P0_ k_ ∨ w.heap.size ≤ k_)) (.slice (some ⟨go5, 0, none⟩) x0_1.length co12) y386 from (by (with_reducible repeat (first | apply Kd.R_alloc | apply Kd.R_drewN | apply Kd.R_drew)); exact HO_0.out)); obtain ⟨ce19, hcl19, hM19, hcc19, hfr19⟩ := Kd.R_elem HX19.out z106 (x5_1 : Int) (of_decide_eq_true (by first | (with_reducible assumption) | assumption)) (by have h_ : (x5_1 : Int) < ((x0_1.length : Int) : Int) := of_decide_eq_true (by first | (with_reducible assumption) | assumption); first | exact h_ | (have e_ := (Kd.R_reads' HO_0.out).1; omega) | simpa using h_); obtain rfl := k106_openM hM19; have HP19 := Kd.R_seg HX19.out (x5_1 : Int) (of_decide_eq_true (by first | (with_reducible assumption) | assumption)) (by have h_ : (x5_1 : Int) < ((x0_1.length : Int) : Int) := of_decide_eq_true (by first | (with_reducible assumption) | assumption); first | exact h_ | (have e_ := (Kd.R_reads' HO_0.out).1; omega) | simpa using h_) (seg := [.int .i64 (wrap64 ((wrap64 ((wrap64 (x1_1 + 1)) + 1)) + 1))]) (j := 3) hcl19 hcc19 (show 4 ≤ 6 from by decide) (x' := (⟨(rd_T106 y386 x5_1).f0, (rd_T106 y386 x5_1).f1, (rd_T106 y386 x5_1).f2, (⟨wrap64 ((wrap64 ((wrap64 (x1_1 + 1)) + 1)) + 1), (rd_T106 y386 x5_1).f3.f1, (rd_T106 y386 x5_1).f3.f2⟩ : S104)⟩ : S106)) (k106_mkM _ _ _ (⟨(rd_T106 y386 x5_1).f0, (rd_T106 y386 x5_1).f1, (rd_T106 y386 x5_1).f2, (⟨wrap64 ((wrap64 ((wrap64 (x1_1 + 1)) + 1)) + 1), (rd_T106 y386 x5_1).f3.f1, (rd_T106 y386 x5_1).f3.f2⟩ : S104)⟩ : S106) ) (fun _ hk => hk); have hx19_3 := hcc19 3 _ rfl; (try simp only [show (k106).sz = 6 from rfl, Nat.mul_one, Nat.add_zero] at hx19_3); have hf19_3 := hfr19 3; (try simp only [show (k106).sz = 6 from rfl, Nat.mul_one, Nat.add_zero] at hf19_3); clear hcl19 hcc19 hfr19 hM19) | ((with_reducible refine gate_store (t := 3) (p := 38) rfl ?_); refine store_event (t := 3) (p := 38) (v := ?vo_w20) (w1 := (w18.setCell ⟨go5, (x5_1 : Int).toNat * 6 + 3, none⟩ (.int .i64 (wrap64 ((wrap64 ((wrap64 (x1_1 + 1)) + 1)) + 1))))) ?hg ?ho ?hn ?hr ?_; (case ho => rfl); (case hg => rfl); (case hn => rfl); (case hr => first | (go_simp; done) | (go_simp; rfl)); intro w20 hw; have hg : w18.grownBy w20 (some go5) := (by rw [hw]; exact HP19.2); have hp_ : Kd.R k106 106 w20 w0.heap.size (fun k_ => (P0_ k_ ∨ w.heap.size ≤ k_)) (.slice (some ⟨go5, 0, none⟩) x0_1.length co12) y387 := (by rw [hw, Ny387.out]; exact HP19.1); clear HP19; have n0_ := Aside0.mk (hp_); have n1_ := Aside0.mk ((by rw [hw]; exact below_set (HB.out) GB5.out : Below w0.heap.size w0 w20)); have n2_ := Aside0.mk (Kept.of_grown (S := (fun k_ => P0_ k_)) hg (by repeat (first | (with_reducible first | exact HK.out | apply Kept.alloc | apply Kept.drewN | apply Kept.drew) | exact HK.out)) (fun k_ e_ => (HO_0.out.1 k_ e_))); clear HO_0; clear HB; clear HK; have HO_0 := n0_; have HB := n1_; have HK := n2_; clear n0_ n1_ n2_; clear hg hw hp_; have p9 : 0 ≤ (x5_1 : Int) := of_decide_eq_true (by first | (with_reducible assumption) | assumption); have q9 : (x5_1 : Int) < ((x0_1.length : Int) : Int) := of_decide_eq_true (by first | (with_reducible assumption) | assumption); obtain ⟨ce9, hcl9, hM9, hcc9, hfr9⟩ := Kd.R_elem HO_0.out z106 (x5_1 : Int) p9 q9; obtain rfl := k106_openM hM9; have hx9_0 : w20.cell? ⟨go5, (x5_1 : Int).toNat * 6, none⟩ = some (.int .i64 ((rd_T106 y387 x5_1).f0)) := hcc9 0 _ rfl; have hx9_1 : w20.cell? ⟨go5, (x5_1 : Int).toNat * 6 + 1, none⟩ = some (.int .i64 ((rd_T106 y387 x5_1).f1)) := hcc9 1 _ rfl; have hx9_2 : w20.cell? ⟨go5, (x5_1 : Int).toNat * 6 + 2, none⟩ = some (.int .i64 ((rd_T106 y387 x5_1).f2)) := hcc9 2 _ rfl; have hx9_3 : w20.cell? ⟨go5, (x5_1 : Int).toNat * 6 + 3, none⟩ = some (.int .i64 ((rd_T106 y387 x5_1).f3.f0)) := hcc9 3 _ rfl; have hx9_4 : w20.cell? ⟨go5, (x5_1 : Int).toNat * 6 + 4, none⟩ = some (.int .i64 ((rd_T106 y387 x5_1).f3.f1)) := hcc9 4 _ rfl; have hx9_5 : w20.cell? ⟨go5, (x5_1 : Int).toNat * 6 + 5, none⟩ = some (.string ((rd_T106 y387 x5_1).f3.f2)) := hcc9 5 _ rfl; have hf9_0 : w20.frozen? ⟨go5, (x5_1 : Int).toNat * 6, none⟩ = false := hfr9 0; have hf9_1 : w20.frozen? ⟨go5, (x5_1 : Int).toNat * 6 + 1, none⟩ = false := hfr9 1; have hf9_2 : w20.frozen? ⟨go5, (x5_1 : Int).toNat * 6 + 2, none⟩ = false := hfr9 2; have hf9_3 : w20.frozen? ⟨go5, (x5_1 : Int).toNat * 6 + 3, none⟩ = false := hfr9 3; have hf9_4 : w20.frozen? ⟨go5, (x5_1 : Int).toNat * 6 + 4, none⟩ = false := hfr9 4; have hf9_5 : w20.frozen? ⟨go5, (x5_1 : Int).toNat * 6 + 5, none⟩ = false := hfr9 5; clear hcl9 hcc9 hfr9 hM9; replace p9 := eq_true p9; replace q9 := eq_true q9; have HX21 := Aside0.mk (show Kd.R k106 106 w20 w0.heap.size (fun k_ => (P0_ k_ ∨ w.heap.size ≤ k_)) (.slice (some ⟨go5, 0, none⟩) x0_1.length co12) y387 from (by (with_reducible repeat (first | apply Kd.R_alloc | apply Kd.R_drewN | apply Kd.R_drew)); exact HO_0.out)); obtain ⟨ce21, hcl21, hM21, hcc21, hfr21⟩ := Kd.R_elem HX21.out z106 (x5_1 : Int) (of_decide_eq_true (by first | (with_reducible assumption) | assumption)) (by have h_ : (x5_1 : Int) < ((x0_1.length : Int) : Int) := of_decide_eq_true (by first | (with_reducible assumption) | assumption); first | exact h_ | (have e_ := (Kd.R_reads' HO_0.out).1; omega) | simpa using h_); obtain rfl := k106_openM hM21; have HP21 := Kd.R_seg HX21.out (x5_1 : Int) (of_decide_eq_true (by first | (with_reducible assumption) | assumption)) (by have h_ : (x5_1 : Int) < ((x0_1.length : Int) : Int) := of_decide_eq_true (by first | (with_reducible assumption) | assumption); first | exact h_ | (have e_ := (Kd.R_reads' HO_0.out).1; omega) | simpa using h_) (seg := [.int .i64 (wrap64 ((wrap64 ((wrap64 ((wrap64 (x1_1 + 1)) + 1)) + 1)) + 1))]) (j := 4) hcl21 hcc21 (show 5 ≤ 6 from by decide) (x' := (⟨(rd_T106 y387 x5_1).f0, (rd_T106 y387 x5_1).f1, (rd_T106 y387 x5_1).f2, (⟨(rd_T106 y387 x5_1).f3.f0, wrap64 ((wrap64 ((wrap64 ((wrap64 (x1_1 + 1)) + 1)) + 1)) + 1), (rd_T106 y387 x5_1).f3.f2⟩ : S104)⟩ : S106)) (k106_mkM _ _ _ (⟨(rd_T106 y387 x5_1).f0, (rd_T106 y387 x5_1).f1, (rd_T106 y387 x5_1).f2, (⟨(rd_T106 y387 x5_1).f3.f0, wrap64 ((wrap64 ((wrap64 ((wrap64 (x1_1 + 1)) + 1)) + 1)) + 1), (rd_T106 y387 x5_1).f3.f2⟩ : S104)⟩ : S106) ) (fun _ hk => hk); have hx21_4 := hcc21 4 _ rfl; (try simp only [show (k106).sz = 6 from rfl, Nat.mul_one, Nat.add_zero] at hx21_4); have hf21_4 := hfr21 4; (try simp only [show (k106).sz = 6 from rfl, Nat.mul_one, Nat.add_zero] at hf21_4); clear hcl21 hcc21 hfr21 hM21) | ((with_reducible refine gate_store (t := 2) (p := 46) rfl ?_); refine store_event (t := 2) (p := 46) (v := ?vo_w22) (w1 := (w20.setCell ⟨go5, (x5_1 : Int).toNat * 6 + 4, none⟩ (.int .i64 (wrap64 ((wrap64 ((wrap64 ((wrap64 (x1_1 + 1)) + 1)) + 1)) + 1))))) ?hg ?ho ?hn ?hr ?_; (case ho => rfl); (case hg => rfl); (case hn => rfl); (case hr => first | (go_simp; done) | (go_simp; rfl)); intro w22 hw; have hg : w20.grownBy w22 (some go5) := (by rw [hw]; exact HP21.2); have hp_ : Kd.R k106 106 w22 w0.heap.size (fun k_ => (P0_ k_ ∨ w.heap.size ≤ k_)) (.slice (some ⟨go5, 0, none⟩) x0_1.length co12) y388 := (by rw [hw, Ny388.out]; exact HP21.1); clear HP21; have n0_ := Aside0.mk (hp_); have n1_ := Aside0.mk ((by rw [hw]; exact below_set (HB.out) GB5.out : Below w0.heap.size w0 w22)); have n2_ := Aside0.mk (Kept.of_grown (S := (fun k_ => P0_ k_)) hg (by repeat (first | (with_reducible first | exact HK.out | apply Kept.alloc | apply Kept.drewN | apply Kept.drew) | exact HK.out)) (fun k_ e_ => (HO_0.out.1 k_ e_))); clear HO_0; clear HB; clear HK; have HO_0 := n0_; have HB := n1_; have HK := n2_; clear n0_ n1_ n2_; clear hg hw hp_) | ((with_reducible refine gate_callee (f := 88) rfl ?_); refine goesL_ (some 52) rfl rfl Try.func88 (by kernel_rfl) rfl #[.int .i64 (wrap64 ((wrap64 ((wrap64 ((wrap64 ((wrap64 (x1_1 + 1)) + 1)) + 1)) + 1)) + 1))] rfl (by (try simp only [List.map_toArray, List.map_cons, List.map_nil]); first | done | rfl | (simp only [List.length_drop, List.length_take]; rfl)) ?_; (with_reducible refine (laws_markText.calls k1 (wrap64 ((wrap64 ((wrap64 ((wrap64 ((wrap64 (x1_1 + 1)) + 1)) + 1)) + 1)) + 1)) t389 _ A10.out).mono ?_); rintro e w23 ⟨rfl, hb⟩; refine ⟨_, rfl, ?_⟩; have n0_ := Aside0.mk (Kd.R_below (by (with_reducible repeat (first | apply Kd.R_alloc | apply Kd.R_drewN | apply Kd.R_drew)); exact HO_0.out) hb); have n1_ := Aside0.mk (Kept.below (S := (fun k_ => P0_ k_)) (by repeat (first | (with_reducible first | exact HK.out | apply Kept.alloc | apply Kept.drewN | apply Kept.drew) | exact HK.out)) hb); have n2_ := Aside0.mk (below_step (by repeat (first | (with_reducible first | exact HB.out | apply below_alloc | apply pw_below_drewN | apply below_drew1) | exact HB.out)) hb); clear HO_0; clear HK; clear HB; have HO_0 := n0_; have HK := n1_; have HB := n2_; clear n0_ n1_ n2_; (try clear hb); (try clear hb2); (try clear hk); (try clear hi); have p11 : 0 ≤ (x5_1 : Int) := of_decide_eq_true (by first | (with_reducible assumption) | assumption); have q11 : (x5_1 : Int) < ((x0_1.length : Int) : Int) := of_decide_eq_true (by first | (with_reducible assumption) | assumption); obtain ⟨ce11, hcl11, hM11, hcc11, hfr11⟩ := Kd.R_elem HO_0.out z106 (x5_1 : Int) p11 q11; obtain rfl := k106_openM hM11; have hx11_0 : w23.cell? ⟨go5, (x5_1 : Int).toNat * 6, none⟩ = some (.int .i64 ((rd_T106 y388 x5_1).f0)) := hcc11 0 _ rfl; have hx11_1 : w23.cell? ⟨go5, (x5_1 : Int).toNat * 6 + 1, none⟩ = some (.int .i64 ((rd_T106 y388 x5_1).f1)) := hcc11 1 _ rfl; have hx11_2 : w23.cell? ⟨go5, (x5_1 : Int).toNat * 6 + 2, none⟩ = some (.int .i64 ((rd_T106 y388 x5_1).f2)) := hcc11 2 _ rfl; have hx11_3 : w23.cell? ⟨go5, (x5_1 : Int).toNat * 6 + 3, none⟩ = some (.int .i64 ((rd_T106 y388 x5_1).f3.f0)) := hcc11 3 _ rfl; have hx11_4 : w23.cell? ⟨go5, (x5_1 : Int).toNat * 6 + 4, none⟩ = some (.int .i64 ((rd_T106 y388 x5_1).f3.f1)) := hcc11 4 _ rfl; have hx11_5 : w23.cell? ⟨go5, (x5_1 : Int).toNat * 6 + 5, none⟩ = some (.string ((rd_T106 y388 x5_1).f3.f2)) := hcc11 5 _ rfl; have hf11_0 : w23.frozen? ⟨go5, (x5_1 : Int).toNat * 6, none⟩ = false := hfr11 0; have hf11_1 : w23.frozen? ⟨go5, (x5_1 : Int).toNat * 6 + 1, none⟩ = false := hfr11 1; have hf11_2 : w23.frozen? ⟨go5, (x5_1 : Int).toNat * 6 + 2, none⟩ = false := hfr11 2; have hf11_3 : w23.frozen? ⟨go5, (x5_1 : Int).toNat * 6 + 3, none⟩ = false := hfr11 3; have hf11_4 : w23.frozen? ⟨go5, (x5_1 : Int).toNat * 6 + 4, none⟩ = false := hfr11 4; have hf11_5 : w23.frozen? ⟨go5, (x5_1 : Int).toNat * 6 + 5, none⟩ = false := hfr11 5; clear hcl11 hcc11 hfr11 hM11; replace p11 := eq_true p11; replace q11 := eq_true q11; have HX24 := Aside0.mk (show Kd.R k106 106 w23 w0.heap.size (fun k_ => (P0_ k_ ∨ w.heap.size ≤ k_)) (.slice (some ⟨go5, 0, none⟩) x0_1.length co12) y388 from (by (with_reducible repeat (first | apply Kd.R_alloc | apply Kd.R_drewN | apply Kd.R_drew)); exact HO_0.out)); obtain ⟨ce24, hcl24, hM24, hcc24, hfr24⟩ := Kd.R_elem HX24.out z106 (x5_1 : Int) (of_decide_eq_true (by first | (with_reducible assumption) | assumption)) (by have h_ : (x5_1 : Int) < ((x0_1.length : Int) : Int) := of_decide_eq_true (by first | (with_reducible assumption) | assumption); first | exact h_ | (have e_ := (Kd.R_reads' HO_0.out).1; omega) | simpa using h_); obtain rfl := k106_openM hM24; have HP24 := Kd.R_seg HX24.out (x5_1 : Int) (of_decide_eq_true (by first | (with_reducible assumption) | assumption)) (by have h_ : (x5_1 : Int) < ((x0_1.length : Int) : Int) := of_decide_eq_true (by first | (with_reducible assumption) | assumption); first | exact h_ | (have e_ := (Kd.R_reads' HO_0.out).1; omega) | simpa using h_) (seg := [.string t389]) (j := 5) hcl24 hcc24 (show 6 ≤ 6 from by decide) (x' := (⟨(rd_T106 y388 x5_1).f0, (rd_T106 y388 x5_1).f1, (rd_T106 y388 x5_1).f2, (⟨(rd_T106 y388 x5_1).f3.f0, (rd_T106 y388 x5_1).f3.f1, t389⟩ : S104)⟩ : S106)) (k106_mkM _ _ _ (⟨(rd_T106 y388 x5_1).f0, (rd_T106 y388 x5_1).f1, (rd_T106 y388 x5_1).f2, (⟨(rd_T106 y388 x5_1).f3.f0, (rd_T106 y388 x5_1).f3.f1, t389⟩ : S104)⟩ : S106) ) (fun _ hk => hk); have hx24_5 := hcc24 5 _ rfl; (try simp only [show (k106).sz = 6 from rfl, Nat.mul_one, Nat.add_zero] at hx24_5); have hf24_5 := hfr24 5; (try simp only [show (k106).sz = 6 from rfl, Nat.mul_one, Nat.add_zero] at hf24_5); clear hcl24 hcc24 hfr24 hM24) | ((with_reducible refine gate_store (t := 9) (p := 55) rfl ?_); refine store_event (t := 9) (p := 55) (v := ?vo_w25) (w1 := (w23.setCell ⟨go5, (x5_1 : Int).toNat * 6 + 5, none⟩ (.string t389))) ?hg ?ho ?hn ?hr ?_; (case ho => rfl); (case hg => rfl); (case hn => rfl); (case hr => first | (go_simp; done) | (go_simp; rfl)); intro w25 hw; have hg : w23.grownBy w25 (some go5) := (by rw [hw]; exact HP24.2); have hp_ : Kd.R k106 106 w25 w0.heap.size (fun k_ => (P0_ k_ ∨ w.heap.size ≤ k_)) (.slice (some ⟨go5, 0, none⟩) x0_1.length co12) y390 := (by rw [hw, Ny390.out]; exact HP24.1); clear HP24; have n0_ := Aside0.mk (hp_); have n1_ := Aside0.mk ((by rw [hw]; exact below_set (HB.out) GB5.out : Below w0.heap.size w0 w25)); have n2_ := Aside0.mk (Kept.of_grown (S := (fun k_ => P0_ k_)) hg (by repeat (first | (with_reducible first | exact HK.out | apply Kept.alloc | apply Kept.drewN | apply Kept.drew) | exact HK.out)) (fun k_ e_ => (HO_0.out.1 k_ e_))); clear HO_0; clear HB; clear HK; have HO_0 := n0_; have HB := n1_; have HK := n2_; clear n0_ n1_ n2_; clear hg hw hp_))
          go_roundg k1
          case measure => have := HK1.out; omega
          case rel => exact ⟨(y390), (wrap64 ((wrap64 ((wrap64 ((wrap64 ((wrap64 ((wrap64 (x1_1 + 1)) + 1)) + 1)) + 1)) + 1)) + 1)), (wrap64 (x5_1 + 1)), (by first | rfl | (simp; done) | (simp [*]; done)), (by first | rfl | (simp; done) | (simp [*]; done)), H', ⟨by have := HK1.out; omega⟩, ⟨by (with_reducible repeat (first | apply Kd.R_alloc | apply Kd.R_drewN | apply Kd.R_drew)); exact HO_0.out⟩, ⟨by repeat (first | (with_reducible first | exact HK.out | apply Kept.alloc | apply Kept.drewN | apply Kept.drew) | exact HK.out)⟩, ⟨by repeat (first | (with_reducible first | exact HB.out | apply below_alloc | apply pw_below_drewN | apply below_drew1) | exact HB.out)⟩⟩
        · rw [if_neg c4] at H
          exact absurd H (by simp)
      · rw [if_neg c3] at H
        have c3b0 : decide (x5_1 < (x0_1.length : Int)) = false := decide_eq_false c3
        clear c3
        simp only [Option.some.injEq, Prod.mk.injEq] at H
        obtain ⟨rfl, rfl⟩ := H
        obtain ⟨Ao26, co26, eo26⟩ := Kd.R_slice HO_0.out
        subst eo26
        go_wp2
        go_ret
        exact ⟨by first | rfl | (simp [errW_none, errW_some] <;> rfl) | (simp [*, errW_none, errW_some] <;> rfl), by (with_reducible repeat (first | apply Kd.R_alloc | apply Kd.R_drewN | apply Kd.R_drew)); exact HO_0.out, by repeat (first | (with_reducible first | exact HB.out | apply below_alloc | apply pw_below_drewN | apply below_drew1) | exact HB.out), by repeat (first | (with_reducible first | exact HK.out | apply Kept.alloc | apply Kept.drewN | apply Kept.drew) | exact HK.out)⟩
def laws_markAlpha.f (k : Nat) (a0_0 : ByteArray) (a0_1 : Int) (l0_2 : List (S106)) (a1 : Int) : Option (Int × (List (S106))) := (laws_markAlphaTestS.f k l0_2 a1).bind fun bt392 => (some (bt392.1, bt392.2))
theorem laws_markAlpha.mono : ∀ a0 a1 a2 a3 k, LeO (laws_markAlpha.f k a0 a1 a2 a3) (laws_markAlpha.f (k + 1) a0 a1 a2 a3) := by
  intro a0 a1 a2 a3 k
  unfold laws_markAlpha.f
  repeat' first
      | (with_reducible exact laws_markAlphaTestS.mono _ _ _)
      | (with_reducible exact LeO.refl _)
      | (with_reducible exact LeO.none _)
      | (with_reducible refine LeO.ite ?_ ?_)
      | (with_reducible refine LeO.bind ?_ (fun _ => ?_))
      | exact laws_markAlphaTestS.mono _ _ _
      | exact LeO.none _
      | refine LeO.ite ?_ ?_
      | refine LeO.bind ?_ (fun _ => ?_)
set_option maxHeartbeats 8000000 in
set_option maxRecDepth 100000 in
theorem laws_markAlpha.calls (k : Nat) (a0_0 : ByteArray) (a0_1 : Int) (P0_2_ : Nat → Prop) (u9000_ : Value) (l0_2 : List (S106)) (a1 : Int) (r1 : Int) (r2 : List (S106)) (w0 w : World) (hB : Below w0.heap.size w0 w) (ho0_2 : Kd.R k106 106 w w0.heap.size P0_2_ u9000_ l0_2) (h : laws_markAlpha.f k a0_0 a0_1 l0_2 a1 = some (r1, r2)) :
    Calls Try.prog 29 #[.agg #[.string a0_0, .int .i64 a0_1, u9000_], .int .i64 a1] w fun e w' => e = .returned (.int .i64 r1) ∧ Kd.R k106 106 w' w0.heap.size (fun k_ => (P0_2_ k_ ∨ w.heap.size ≤ k_)) u9000_ r2 ∧ Below w0.heap.size w0 w' ∧ Kept w w' (fun k_ => P0_2_ k_) := by
  have hu34 := Try.underlying34
  have HO0_2 := Aside0.mk (show Kd.R k106 106 w w0.heap.size (fun k_ => (P0_2_ k_ ∨ w.heap.size ≤ k_)) u9000_ l0_2 from Kd.R_mono ho0_2 (fun k_ hk => (.inl hk)))
  have HK := Aside0.mk (Kept.refl w (fun k_ => P0_2_ k_))
  have HW0 := Aside0.mk hB.size
  have HB := Aside0.mk hB
  clear hB
  have H : ((laws_markAlphaTestS.f k l0_2 a1).bind fun bt392 => (some (bt392.1, bt392.2))) = some (r1, r2) := h
  clear h
  replace H := Option.bind_eq_some_iff.mp H
  obtain ⟨⟨t392, t393⟩, A30, H⟩ := H
  replace H : (some (t392, t393)) = some (r1, r2) := H
  have A3 := Aside0.mk A30
  clear A30
  simp only [Option.some.injEq, Prod.mk.injEq] at H
  obtain ⟨rfl, rfl⟩ := H
  obtain ⟨Ao4, co4, eo4⟩ := Kd.R_slice HO0_2.out
  subst eo4
  go_enter Try.func29, Try.ntmps29
  go_wp2_with (first | ((with_reducible refine gate_dst (N := 2) rfl ?_); refine box_event ?hg (N := 2) ?hd (cs := #[.string a0_0, .int .i64 a0_1, .slice Ao4 l0_2.length co4]) (t := 34) ?hr ?_; (case hd => rfl); (case hg => rfl); (case hr => first | (go_simp; done) | (go_simp; rfl)); intro gb391 hg w5 hbox hb; have n0_ := Aside0.mk (Kd.R_below (by (with_reducible repeat (first | apply Kd.R_alloc | apply Kd.R_drewN | apply Kd.R_drew)); exact HO0_2.out) hb); have n1_ := Aside0.mk (Kept.below (S := (fun k_ => P0_2_ k_)) (by repeat (first | (with_reducible first | exact HK.out | apply Kept.alloc | apply Kept.drewN | apply Kept.drew) | exact HK.out)) hb); have n2_ := Aside0.mk (below_step (by repeat (first | (with_reducible first | exact HB.out | apply below_alloc | apply pw_below_drewN | apply below_drew1) | exact HB.out)) hb); have n3_ := Aside0.mk (hbox); have n4_ := Aside0.mk ((by rw [hg]; exact (by first | exact HK.out.1 | exact (show Kept w _ (fun k_ => P0_2_ k_) from by repeat (first | (with_reducible first | exact HK.out | apply Kept.alloc | apply Kept.drewN | apply Kept.drew) | exact HK.out)).1) : w.heap.size ≤ gb391)); have n5_ := Aside0.mk ((by rw [hg]; exact (below_size (by repeat (first | (with_reducible first | exact HB.out | apply below_alloc | apply pw_below_drewN | apply below_drew1) | exact HB.out))) : w0.heap.size ≤ gb391)); clear HO0_2; clear HK; clear HB; have HO0_2 := n0_; have HK := n1_; have HB := n2_; have BK391 := n3_; have GW391 := n4_; have GE391 := n5_; clear n0_ n1_ n2_ n3_ n4_ n5_; clear hb hbox hg; have hcz6_0 : w5.cell? ⟨gb391, 0, none⟩ = some (.string a0_0) := (blk_cell BK391.out 0).trans rfl; have hcz6_1 : w5.cell? ⟨gb391, 1, none⟩ = some (.int .i64 a0_1) := (blk_cell BK391.out 1).trans rfl; have hcz6_2 : w5.cell? ⟨gb391, 2, none⟩ = some (.slice Ao4 l0_2.length co4) := (blk_cell BK391.out 2).trans rfl; have hfz6_0 := blk_frozen BK391.out 0; have hfz6_1 := blk_frozen BK391.out 1; have hfz6_2 := blk_frozen BK391.out 2) | ((with_reducible refine gate_callee (f := 77) rfl ?_); refine goesL_ (some 8) rfl rfl Try.func77 (by kernel_rfl) rfl #[.slice Ao4 l0_2.length co4, .int .i64 a1] rfl (by (try simp only [List.map_toArray, List.map_cons, List.map_nil]); first | done | rfl | (simp only [List.length_drop, List.length_take]; rfl)) ?_; (with_reducible refine (laws_markAlphaTestS.calls k (fun k_ => some k_ = (.slice Ao4 l0_2.length co4 : Value).ownBlock) (.slice Ao4 l0_2.length co4) l0_2 a1 t392 t393 w0 _ ?side1 ?side2 A3.out).mono ?_); (case side1 => repeat (first | (with_reducible first | exact HB.out | apply below_alloc | apply pw_below_drewN | apply below_drew1 | refine below_set ?_ GE391.out) | exact HB.out)); (case side2 => exact Kd.R_tight rfl HO0_2.out); rintro e w7 ⟨rfl, hy0, hb, hkp⟩; refine ⟨_, rfl, ?_⟩; have n0_ := Aside0.mk (Kd.R_reok rfl hy0 (fun k_ e_ => HO0_2.out.1 k_ e_)); have n1_ := Aside0.mk (blk_kept (by (with_reducible repeat (first | refine blk_drewN ?_ _ | refine blk_drew ?_ | refine blk_alloc ?_ _)); exact BK391.out) hkp (fun hs_ => (fun e_ => (Kd.R_ne HO0_2.out BK391.out (by decide)) e_) hs_)); have n2_ := Aside0.mk (Kept.then_ (S := (fun k_ => P0_2_ k_)) (by repeat (first | (with_reducible first | exact HK.out | apply Kept.alloc | apply Kept.drewN | apply Kept.drew | refine Kept.setCell ?_ (.inr GW391.out) _) | exact HK.out)) hkp (fun k_ hs_ => (fun e_ => (HO0_2.out.1 k_ e_.symm)) hs_)); have n3_ := Aside0.mk (hb); clear HO0_2; clear BK391; clear HK; clear HB; have HO0_2 := n0_; have BK391 := n1_; have HK := n2_; have HB := n3_; clear n0_ n1_ n2_ n3_; (try clear hb); (try clear hkp); (try clear hy0)))
  go_ret
  exact ⟨by first | rfl | (simp [errW_none, errW_some] <;> rfl) | (simp [*, errW_none, errW_some] <;> rfl), by (with_reducible repeat (first | apply Kd.R_alloc | apply Kd.R_drewN | apply Kd.R_drew)); exact HO0_2.out, by repeat (first | (with_reducible first | exact HB.out | apply below_alloc | apply pw_below_drewN | apply below_drew1 | refine below_set ?_ GE391.out) | exact HB.out), by repeat (first | (with_reducible first | exact HK.out | apply Kept.alloc | apply Kept.drewN | apply Kept.drew | refine Kept.setCell ?_ (.inr GW391.out) _) | exact HK.out)⟩
end Go.Proofs.Ytoncacdehhmpaaa.P
namespace Go.Proofs.Ytoncacdehhmpaaa.P
open Go.RowKit Go.Proofs.YtoncacdehhmpaaaW.PrintWords Go.Proofs.YtoncacdehhmpaaaW.PrintLast Go.Proofs.YtoncacdehhmpaaaW.PrintMore
attribute [local go_sem] max2_int min2_int max_two min_two max_three min_three max_four min_four
set_option linter.unusedVariables false
set_option linter.unusedSimpArgs false
def laws_heldAlphaTestS.l0 : Nat → List (S106) → Int → Int → Option (Int)
  | 0, _, _, _ => none
  | k + 1, x0, x1, x5 => if x5 < (x0.length : Int) then (if 0 ≤ x5 then (if ((rd_T106 x0 x5).f0) = x1 then (if ((rd_T106 x0 x5).f1) = (wrap64 (x1 + 1)) then (if ((rd_T106 x0 x5).f2) = (wrap64 ((wrap64 (x1 + 1)) + 1)) then (if ((rd_T106 x0 x5).f3.f0) = (wrap64 ((wrap64 ((wrap64 (x1 + 1)) + 1)) + 1)) then (if ((rd_T106 x0 x5).f3.f1) = (wrap64 ((wrap64 ((wrap64 ((wrap64 (x1 + 1)) + 1)) + 1)) + 1)) then ((laws_markText.f k (wrap64 ((wrap64 ((wrap64 ((wrap64 ((wrap64 (x1 + 1)) + 1)) + 1)) + 1)) + 1))).bind fun t400 => (if ((rd_T106 x0 x5).f3.f2).toList = t400.toList then (laws_heldAlphaTestS.l0 k x0 (wrap64 ((wrap64 ((wrap64 ((wrap64 ((wrap64 ((wrap64 (x1 + 1)) + 1)) + 1)) + 1)) + 1)) + 1)) (wrap64 (x5 + 1))) else (some (-1)))) else (some (-1))) else (some (-1))) else (some (-1))) else (some (-1))) else (some (-1))) else (none)) else (some x1)
def laws_heldAlphaTestS.f (k : Nat) (l0 : List (S106)) (a1 : Int) : Option (Int) := laws_heldAlphaTestS.l0 k l0 a1 0
theorem laws_heldAlphaTestS.mono_l : ∀ k, (∀ y0 y1 y2, LeO (laws_heldAlphaTestS.l0 k y0 y1 y2) (laws_heldAlphaTestS.l0 (k + 1) y0 y1 y2))
  | 0 => fun _ _ _ r h => by simp [laws_heldAlphaTestS.l0] at h
  | k + 1 => by
    have ih0 := laws_heldAlphaTestS.mono_l k
    · intro y0 y1 y2
      unfold laws_heldAlphaTestS.l0
      repeat' first
      | (with_reducible exact ih0 _ _ _)
      | (with_reducible exact laws_markText.mono _ _)
      | (with_reducible exact LeO.refl _)
      | (with_reducible exact LeO.none _)
      | (with_reducible refine LeO.ite ?_ ?_)
      | (with_reducible refine LeO.bind ?_ (fun _ => ?_))
      | exact ih0 _ _ _
      | exact laws_markText.mono _ _
      | exact LeO.none _
      | refine LeO.ite ?_ ?_
      | refine LeO.bind ?_ (fun _ => ?_)
theorem laws_heldAlphaTestS.mono : ∀ a0 a1 k, LeO (laws_heldAlphaTestS.f k a0 a1) (laws_heldAlphaTestS.f (k + 1) a0 a1) := by
  intro a0 a1 k
  have ih0 := laws_heldAlphaTestS.mono_l k
  unfold laws_heldAlphaTestS.f
  repeat' first
      | (with_reducible exact ih0 _ _ _)
      | (with_reducible exact laws_markText.mono _ _)
      | (with_reducible exact LeO.refl _)
      | (with_reducible exact LeO.none _)
      | (with_reducible refine LeO.ite ?_ ?_)
      | (with_reducible refine LeO.bind ?_ (fun _ => ?_))
      | exact ih0 _ _ _
      | exact laws_markText.mono _ _
      | exact LeO.none _
      | refine LeO.ite ?_ ?_
      | refine LeO.bind ?_ (fun _ => ?_)
def laws_heldAlphaTestS.T19 : Bool × List (List Nat × List Nat) := (true, [([], []), ([], []), ([0, 1], [0, 1]), ([2], [2]), ([3], [3]), ([4], [4]), ([], []), ([6], [6]), ([5, 7], [5, 7])])
def laws_heldAlphaTestS.B19 : List Nat := [0, 0, 3, 7, 15, 31, 0, 64, 255]
theorem laws_heldAlphaTestS.tab19 : rtab .any (opsOf Try.f78 19) = laws_heldAlphaTestS.T19 := by kernel_rfl
theorem laws_heldAlphaTestS.bits19 : waitsOk laws_heldAlphaTestS.T19.2 laws_heldAlphaTestS.B19 = true := by kernel_rfl
set_option maxHeartbeats 8000000 in
set_option maxRecDepth 100000 in
theorem laws_heldAlphaTestS.calls (k : Nat) (A0 : Option Addr) (c0 : Nat) (l0 : List (S106)) (a1 : Int) (r : Int) (w : World) (hr0 : Kd.C k106 w A0 l0.length l0) (hc0 : l0.length ≤ c0) (h : laws_heldAlphaTestS.f k l0 a1 = some r) :
    Calls Try.prog 78 #[.slice A0 l0.length c0, .int .i64 a1] w fun e w' => e = .returned (.int .i64 r) ∧ Below w.heap.size w w' := by
  have HR0 := Aside0.mk hr0
  have HC0 := Aside0.mk hc0
  clear hr0 hc0
  have HB := Aside0.mk (Below.refl w.heap.size w)
  have H : (laws_heldAlphaTestS.l0 k l0 a1 0) = some r := h
  clear h
  have H' := Aside0.mk H
  clear H
  go_enter Try.func78, Try.ntmps78
  go_wp2
  go_loopg [1, 5] k (fun kq v1 v5 w' => ∃ (x1_1 : Int) (x5_1 : Int), v1 = .int .i64 x1_1 ∧ v5 = .int .i64 x5_1 ∧ Aside0 (laws_heldAlphaTestS.l0 kq l0 x1_1 x5_1 = some r) ∧ Aside0 (kq ≤ k) ∧ Aside0 (Below w.heap.size w w'))
  case atStart => exact ⟨(a1), (0), (by first | rfl | (simp; done) | (simp [*]; done)), (by first | rfl | (simp; done) | (simp [*]; done)), H', ⟨Nat.le_refl _⟩, ⟨by repeat (first | (with_reducible first | exact HB.out | apply below_alloc | apply pw_below_drewN | apply below_drew1) | exact HB.out)⟩⟩
  case round =>
    clear H'
    try clear p2
    obtain ⟨x1_1, x5_1, rfl, rfl, HA, HK1, HB⟩ := hrel
    cases gk with
    | zero => exact absurd HA.out (by simp [laws_heldAlphaTestS.l0])
    | succ k1 =>
      have H := HA.out
      clear HA
      simp only [laws_heldAlphaTestS.l0] at H
      by_cases c3 : x5_1 < (l0.length : Int)
      · rw [if_pos c3] at H
        have c3b0 : decide (x5_1 < (l0.length : Int)) = true := decide_eq_true c3
        clear c3
        by_cases c4 : 0 ≤ x5_1
        · rw [if_pos c4] at H
          have c4b0 : decide (0 ≤ x5_1) = true := decide_eq_true c4
          clear c4
          by_cases c5 : ((rd_T106 l0 x5_1).f0) = x1_1
          · rw [if_pos c5] at H
            have c5b0 : (((rd_T106 l0 x5_1).f0) == x1_1) = true := beq_iff_eq.mpr c5
            have c5b1 : (((rd_T106 l0 x5_1).f0) != x1_1) = false := bne_eq_false_iff_eq.mpr c5
            clear c5
            by_cases c6 : ((rd_T106 l0 x5_1).f1) = (wrap64 (x1_1 + 1))
            · rw [if_pos c6] at H
              have c6b0 : (((rd_T106 l0 x5_1).f1) == (wrap64 (x1_1 + 1))) = true := beq_iff_eq.mpr c6
              have c6b1 : (((rd_T106 l0 x5_1).f1) != (wrap64 (x1_1 + 1))) = false := bne_eq_false_iff_eq.mpr c6
              clear c6
              by_cases c7 : ((rd_T106 l0 x5_1).f2) = (wrap64 ((wrap64 (x1_1 + 1)) + 1))
              · rw [if_pos c7] at H
                have c7b0 : (((rd_T106 l0 x5_1).f2) == (wrap64 ((wrap64 (x1_1 + 1)) + 1))) = true := beq_iff_eq.mpr c7
                have c7b1 : (((rd_T106 l0 x5_1).f2) != (wrap64 ((wrap64 (x1_1 + 1)) + 1))) = false := bne_eq_false_iff_eq.mpr c7
                clear c7
                by_cases c8 : ((rd_T106 l0 x5_1).f3.f0) = (wrap64 ((wrap64 ((wrap64 (x1_1 + 1)) + 1)) + 1))
                · rw [if_pos c8] at H
                  have c8b0 : (((rd_T106 l0 x5_1).f3.f0) == (wrap64 ((wrap64 ((wrap64 (x1_1 + 1)) + 1)) + 1))) = true := beq_iff_eq.mpr c8
                  have c8b1 : (((rd_T106 l0 x5_1).f3.f0) != (wrap64 ((wrap64 ((wrap64 (x1_1 + 1)) + 1)) + 1))) = false := bne_eq_false_iff_eq.mpr c8
                  clear c8
                  by_cases c9 : ((rd_T106 l0 x5_1).f3.f1) = (wrap64 ((wrap64 ((wrap64 ((wrap64 (x1_1 + 1)) + 1)) + 1)) + 1))
                  · rw [if_pos c9] at H
                    have c9b0 : (((rd_T106 l0 x5_1).f3.f1) == (wrap64 ((wrap64 ((wrap64 ((wrap64 (x1_1 + 1)) + 1)) + 1)) + 1))) = true := beq_iff_eq.mpr c9
                    have c9b1 : (((rd_T106 l0 x5_1).f3.f1) != (wrap64 ((wrap64 ((wrap64 ((wrap64 (x1_1 + 1)) + 1)) + 1)) + 1))) = false := bne_eq_false_iff_eq.mpr c9
                    clear c9
                    replace H := Option.bind_eq_some_iff.mp H
                    obtain ⟨t400, A100, H⟩ := H
                    replace H : (if ((rd_T106 l0 x5_1).f3.f2).toList = t400.toList then (laws_heldAlphaTestS.l0 k1 l0 (wrap64 ((wrap64 ((wrap64 ((wrap64 ((wrap64 ((wrap64 (x1_1 + 1)) + 1)) + 1)) + 1)) + 1)) + 1)) (wrap64 (x5_1 + 1))) else (some (-1))) = some r := H
                    have A10 := Aside0.mk A100
                    clear A100
                    by_cases c11 : ((rd_T106 l0 x5_1).f3.f2).toList = t400.toList
                    · rw [if_pos c11] at H
                      have c11b0 : (((rd_T106 l0 x5_1).f3.f2).toList == t400.toList) = true := beq_iff_eq.mpr c11
                      have c11b1 : (((rd_T106 l0 x5_1).f3.f2).toList != t400.toList) = false := bne_eq_false_iff_eq.mpr c11
                      clear c11
                      have H' := Aside0.mk H
                      clear H
                      have p394 : 0 ≤ (x5_1 : Int) := of_decide_eq_true (by first | (with_reducible assumption) | assumption)
                      have q394 : x5_1 < (l0.length : Int) := of_decide_eq_true (by first | (with_reducible assumption) | assumption)
                      obtain ⟨ad394, e394, hx394_0, hx394_1, hx394_2, hx394_3, hx394_4, hx394_5⟩ := at_T106 HR0.out x5_1 p394 q394
                      cases e394
                      replace hx394_0 := (HB.out.cell (World.block_lt_of_cell? w _ hx394_0)).trans hx394_0
                      replace hx394_1 := (HB.out.cell (World.block_lt_of_cell? w _ hx394_1)).trans hx394_1
                      replace hx394_2 := (HB.out.cell (World.block_lt_of_cell? w _ hx394_2)).trans hx394_2
                      replace hx394_3 := (HB.out.cell (World.block_lt_of_cell? w _ hx394_3)).trans hx394_3
                      replace hx394_4 := (HB.out.cell (World.block_lt_of_cell? w _ hx394_4)).trans hx394_4
                      replace hx394_5 := (HB.out.cell (World.block_lt_of_cell? w _ hx394_5)).trans hx394_5
                      replace p394 := eq_true p394
                      replace q394 := eq_true q394
                      have p395 : 0 ≤ (x5_1 : Int) := of_decide_eq_true (by first | (with_reducible assumption) | assumption)
                      have q395 : x5_1 < (l0.length : Int) := of_decide_eq_true (by first | (with_reducible assumption) | assumption)
                      obtain ⟨ad395, e395, hx395_0, hx395_1, hx395_2, hx395_3, hx395_4, hx395_5⟩ := at_T106 HR0.out x5_1 p395 q395
                      obtain rfl : ad394 = ad395 := (by injection e395)
                      replace hx395_0 := (HB.out.cell (World.block_lt_of_cell? w _ hx395_0)).trans hx395_0
                      replace hx395_1 := (HB.out.cell (World.block_lt_of_cell? w _ hx395_1)).trans hx395_1
                      replace hx395_2 := (HB.out.cell (World.block_lt_of_cell? w _ hx395_2)).trans hx395_2
                      replace hx395_3 := (HB.out.cell (World.block_lt_of_cell? w _ hx395_3)).trans hx395_3
                      replace hx395_4 := (HB.out.cell (World.block_lt_of_cell? w _ hx395_4)).trans hx395_4
                      replace hx395_5 := (HB.out.cell (World.block_lt_of_cell? w _ hx395_5)).trans hx395_5
                      replace p395 := eq_true p395
                      replace q395 := eq_true q395
                      have p396 : 0 ≤ (x5_1 : Int) := of_decide_eq_true (by first | (with_reducible assumption) | assumption)
                      have q396 : x5_1 < (l0.length : Int) := of_decide_eq_true (by first | (with_reducible assumption) | assumption)
                      obtain ⟨ad396, e396, hx396_0, hx396_1, hx396_2, hx396_3, hx396_4, hx396_5⟩ := at_T106 HR0.out x5_1 p396 q396
                      obtain rfl : ad394 = ad396 := (by injection e396)
                      replace hx396_0 := (HB.out.cell (World.block_lt_of_cell? w _ hx396_0)).trans hx396_0
                      replace hx396_1 := (HB.out.cell (World.block_lt_of_cell? w _ hx396_1)).trans hx396_1
                      replace hx396_2 := (HB.out.cell (World.block_lt_of_cell? w _ hx396_2)).trans hx396_2
                      replace hx396_3 := (HB.out.cell (World.block_lt_of_cell? w _ hx396_3)).trans hx396_3
                      replace hx396_4 := (HB.out.cell (World.block_lt_of_cell? w _ hx396_4)).trans hx396_4
                      replace hx396_5 := (HB.out.cell (World.block_lt_of_cell? w _ hx396_5)).trans hx396_5
                      replace p396 := eq_true p396
                      replace q396 := eq_true q396
                      have p397 : 0 ≤ (x5_1 : Int) := of_decide_eq_true (by first | (with_reducible assumption) | assumption)
                      have q397 : x5_1 < (l0.length : Int) := of_decide_eq_true (by first | (with_reducible assumption) | assumption)
                      obtain ⟨ad397, e397, hx397_0, hx397_1, hx397_2, hx397_3, hx397_4, hx397_5⟩ := at_T106 HR0.out x5_1 p397 q397
                      obtain rfl : ad394 = ad397 := (by injection e397)
                      replace hx397_0 := (HB.out.cell (World.block_lt_of_cell? w _ hx397_0)).trans hx397_0
                      replace hx397_1 := (HB.out.cell (World.block_lt_of_cell? w _ hx397_1)).trans hx397_1
                      replace hx397_2 := (HB.out.cell (World.block_lt_of_cell? w _ hx397_2)).trans hx397_2
                      replace hx397_3 := (HB.out.cell (World.block_lt_of_cell? w _ hx397_3)).trans hx397_3
                      replace hx397_4 := (HB.out.cell (World.block_lt_of_cell? w _ hx397_4)).trans hx397_4
                      replace hx397_5 := (HB.out.cell (World.block_lt_of_cell? w _ hx397_5)).trans hx397_5
                      replace p397 := eq_true p397
                      replace q397 := eq_true q397
                      have p398 : 0 ≤ (x5_1 : Int) := of_decide_eq_true (by first | (with_reducible assumption) | assumption)
                      have q398 : x5_1 < (l0.length : Int) := of_decide_eq_true (by first | (with_reducible assumption) | assumption)
                      obtain ⟨ad398, e398, hx398_0, hx398_1, hx398_2, hx398_3, hx398_4, hx398_5⟩ := at_T106 HR0.out x5_1 p398 q398
                      obtain rfl : ad394 = ad398 := (by injection e398)
                      replace hx398_0 := (HB.out.cell (World.block_lt_of_cell? w _ hx398_0)).trans hx398_0
                      replace hx398_1 := (HB.out.cell (World.block_lt_of_cell? w _ hx398_1)).trans hx398_1
                      replace hx398_2 := (HB.out.cell (World.block_lt_of_cell? w _ hx398_2)).trans hx398_2
                      replace hx398_3 := (HB.out.cell (World.block_lt_of_cell? w _ hx398_3)).trans hx398_3
                      replace hx398_4 := (HB.out.cell (World.block_lt_of_cell? w _ hx398_4)).trans hx398_4
                      replace hx398_5 := (HB.out.cell (World.block_lt_of_cell? w _ hx398_5)).trans hx398_5
                      replace p398 := eq_true p398
                      replace q398 := eq_true q398
                      try go_wp2
                      have n0_ := Aside0.mk (below_drew1 HB.out)
                      clear HB
                      have HB := n0_
                      clear n0_
                      have p399 : 0 ≤ (x5_1 : Int) := of_decide_eq_true (by first | (with_reducible assumption) | assumption)
                      have q399 : x5_1 < (l0.length : Int) := of_decide_eq_true (by first | (with_reducible assumption) | assumption)
                      obtain ⟨ad399, e399, hx399_0, hx399_1, hx399_2, hx399_3, hx399_4, hx399_5⟩ := at_T106 HR0.out x5_1 p399 q399
                      have hw399_5 := hx399_5
                      have hw399_4 := hx399_4
                      have hw399_3 := hx399_3
                      have hw399_2 := hx399_2
                      have hw399_1 := hx399_1
                      have hw399_0 := hx399_0
                      obtain rfl : ad394 = ad399 := (by injection e399)
                      replace hx399_0 := (HB.out.cell (World.block_lt_of_cell? w _ hx399_0)).trans hx399_0
                      replace hx399_1 := (HB.out.cell (World.block_lt_of_cell? w _ hx399_1)).trans hx399_1
                      replace hx399_2 := (HB.out.cell (World.block_lt_of_cell? w _ hx399_2)).trans hx399_2
                      replace hx399_3 := (HB.out.cell (World.block_lt_of_cell? w _ hx399_3)).trans hx399_3
                      replace hx399_4 := (HB.out.cell (World.block_lt_of_cell? w _ hx399_4)).trans hx399_4
                      replace hx399_5 := (HB.out.cell (World.block_lt_of_cell? w _ hx399_5)).trans hx399_5
                      replace p399 := eq_true p399
                      replace q399 := eq_true q399
                      refine start_ (n := 9) (S := fun w' => w'.cell? (ad394.add ((x5_1).toNat * 6)) = some (.int .i64 ((rd_T106 l0 x5_1).f0)) ∧ w'.cell? ⟨(ad394.add ((x5_1).toNat * 6)).block, (ad394.add ((x5_1).toNat * 6)).off + 1, none⟩ = some (.int .i64 ((rd_T106 l0 x5_1).f1)) ∧ w'.cell? ⟨(ad394.add ((x5_1).toNat * 6)).block, (ad394.add ((x5_1).toNat * 6)).off + 2, none⟩ = some (.int .i64 ((rd_T106 l0 x5_1).f2)) ∧ w'.cell? ⟨(ad394.add ((x5_1).toNat * 6)).block, (ad394.add ((x5_1).toNat * 6)).off + 3, none⟩ = some (.int .i64 ((rd_T106 l0 x5_1).f3.f0)) ∧ w'.cell? ⟨(ad394.add ((x5_1).toNat * 6)).block, (ad394.add ((x5_1).toNat * 6)).off + 4, none⟩ = some (.int .i64 ((rd_T106 l0 x5_1).f3.f1)) ∧ w'.cell? ⟨(ad394.add ((x5_1).toNat * 6)).block, (ad394.add ((x5_1).toNat * 6)).off + 5, none⟩ = some (.string ((rd_T106 l0 x5_1).f3.f2))) (ds := []) #[false, false, false, false, false, false, false, false, false] (by kernel_rfl) rfl rfl ⟨((HB.out.cell (World.block_lt_of_cell? w _ hw399_0)).trans hw399_0), ((HB.out.cell (World.block_lt_of_cell? w _ hw399_1)).trans hw399_1), ((HB.out.cell (World.block_lt_of_cell? w _ hw399_2)).trans hw399_2), ((HB.out.cell (World.block_lt_of_cell? w _ hw399_3)).trans hw399_3), ((HB.out.cell (World.block_lt_of_cell? w _ hw399_4)).trans hw399_4), ((HB.out.cell (World.block_lt_of_cell? w _ hw399_5)).trans hw399_5)⟩ (fun hHeld => ?_); refine with_tabW laws_heldAlphaTestS.tab19 laws_heldAlphaTestS.bits19 (fun HT_ HW_ => ?_)
                      generalize wr.drew = w12 at HB hx399_0 hx399_1 hx399_2 hx399_3 hx399_4 hx399_5 hHeld ⊢
                      refine pure_ (i := 0) (N := some 59) (v := ?_) (a' := ?_) #[true, false, false, false, false, false, false, false, false] rfl rfl (any_of HT_.out (by kernel_rfl)) (fun _ _ _ h => h) (Or.inl ⟨by rfl, ?_⟩) ?_ ?_
                      rotate_left
                      · intro w'
                        go_simp
                        with_reducible rfl
                      rotate_left
                      · simp only [Act.put, List.setIfInBounds_toArray, List.set_cons_zero, List.set_cons_succ, i64_w, i32_w]
                        rfl
                      refine pure_ (i := 1) (N := some 60) (v := ?_) (a' := ?_) #[true, true, false, false, false, false, false, false, false] rfl rfl (any_of HT_.out (by kernel_rfl)) (fun _ _ _ h => h) (Or.inl ⟨by rfl, ?_⟩) ?_ ?_
                      rotate_left
                      · intro w'
                        go_simp
                        with_reducible rfl
                      rotate_left
                      · simp only [Act.put, List.setIfInBounds_toArray, List.set_cons_zero, List.set_cons_succ, i64_w, i32_w]
                        rfl
                      refine pure_ (i := 2) (N := some 61) (v := ?_) (a' := ?_) #[true, true, true, false, false, false, false, false, false] rfl rfl (any_of HT_.out (by kernel_rfl)) (fun _ _ _ h => h) (Or.inl ⟨by rfl, ?_⟩) ?_ ?_
                      rotate_left
                      · intro w'
                        go_simp
                        with_reducible rfl
                      rotate_left
                      · simp only [Act.put, List.setIfInBounds_toArray, List.set_cons_zero, List.set_cons_succ, i64_w, i32_w]
                        rfl
                      refine pure_ (i := 3) (N := some 62) (v := ?_) (a' := ?_) #[true, true, true, true, false, false, false, false, false] rfl rfl (any_of HT_.out (by kernel_rfl)) (fun _ _ _ h => h) (Or.inl ⟨by rfl, ?_⟩) ?_ ?_
                      rotate_left
                      · intro w'
                        go_simp
                        with_reducible rfl
                      rotate_left
                      · simp only [Act.put, List.setIfInBounds_toArray, List.set_cons_zero, List.set_cons_succ, i64_w, i32_w]
                        rfl
                      refine pure_ (i := 4) (N := some 63) (v := ?_) (a' := ?_) #[true, true, true, true, true, false, false, false, false] rfl rfl (any_of HT_.out (by kernel_rfl)) (fun _ _ _ h => h) (Or.inl ⟨by rfl, ?_⟩) ?_ ?_
                      rotate_left
                      · intro w'
                        go_simp
                        with_reducible rfl
                      rotate_left
                      · simp only [Act.put, List.setIfInBounds_toArray, List.set_cons_zero, List.set_cons_succ, i64_w, i32_w]
                        rfl
                      refine pure_ (i := 6) (N := some 65) (v := ?_) (a' := ?_) #[true, true, true, true, true, false, true, false, false] rfl rfl (any_of HT_.out (by kernel_rfl)) (fun _ _ _ h => h) (Or.inl ⟨by rfl, ?_⟩) ?_ ?_
                      rotate_left
                      · intro w'
                        go_simp
                        with_reducible rfl
                      rotate_left
                      · simp only [Act.put, List.setIfInBounds_toArray, List.set_cons_zero, List.set_cons_succ, i64_w, i32_w]
                        rfl
                      refine take_ (i := 5) (N := some 64) (v := ?_) (a' := ?_) #[true, true, true, true, true, true, true, false, false] rfl rfl (take_ofW HT_.out HW_.out (by kernel_rfl)) (fun _ _ _ h => h) (Or.inl ⟨by rfl, ?_⟩) hHeld ?_ ?_
                      rotate_left
                      · rintro w' ⟨s0, s1, s2, s3, s4, s5⟩
                        go_simp
                        with_reducible rfl
                      rotate_left
                      · simp only [Act.put, List.setIfInBounds_toArray, List.set_cons_zero, List.set_cons_succ, i64_w, i32_w]
                        rfl
                      refine one_ (i := 7) (N := some 66) #[true, true, true, true, true, true, true, true, false] rfl rfl (one_of HT_.out (by kernel_rfl)) (by decide) (fun K hK => ?_)
                      refine goes_ Try.func88 (by kernel_rfl) rfl #[.int .i64 (wrap64 ((wrap64 ((wrap64 ((wrap64 ((wrap64 (x1_1 + 1)) + 1)) + 1)) + 1)) + 1))] (by rfl) rfl rfl (by (try simp only [List.map_toArray, List.map_cons, List.map_nil]); first | done | rfl | (simp only [List.length_drop, List.length_take]; rfl)) ?_
                      with_reducible refine (laws_markText.calls k1 (wrap64 ((wrap64 ((wrap64 ((wrap64 ((wrap64 (x1_1 + 1)) + 1)) + 1)) + 1)) + 1)) t400 _ A10.out).mono ?_
                      rintro e w13 ⟨rfl, hb⟩
                      refine ⟨_, rfl, ?_⟩
                      have n0_ := Aside0.mk (below_step (by repeat (first | (with_reducible first | exact HB.out | apply below_alloc | apply pw_below_drewN | apply below_drew1) | exact HB.out)) hb)
                      clear HB
                      have HB := n0_
                      clear n0_
                      (try clear hb)
                      (try clear hb2)
                      (try clear hk)
                      (try clear hi)
                      refine hK.out _ _ ⟨((HB.out.cell (World.block_lt_of_cell? w _ hw399_0)).trans hw399_0), ((HB.out.cell (World.block_lt_of_cell? w _ hw399_1)).trans hw399_1), ((HB.out.cell (World.block_lt_of_cell? w _ hw399_2)).trans hw399_2), ((HB.out.cell (World.block_lt_of_cell? w _ hw399_3)).trans hw399_3), ((HB.out.cell (World.block_lt_of_cell? w _ hw399_4)).trans hw399_4), ((HB.out.cell (World.block_lt_of_cell? w _ hw399_5)).trans hw399_5)⟩ (fun hHeld => ?_)
                      clear hK K
                      refine norm_ (a' := ?_) ?_ ?_
                      rotate_left
                      · show Act.put _ (some 66) _ = _
                        simp only [Act.put, List.setIfInBounds_toArray, List.set_cons_zero, List.set_cons_succ, i64_w, i32_w]
                        rfl
                      refine pure_ (i := 8) (N := some 67) (v := ?_) (a' := ?_) #[true, true, true, true, true, true, true, true, true] rfl rfl (any_of HT_.out (by kernel_rfl)) (fun _ _ _ h => h) (Or.inl ⟨by rfl, ?_⟩) ?_ ?_
                      rotate_left
                      · intro w'
                        go_simp
                        with_reducible rfl
                      rotate_left
                      · simp only [Act.put, List.setIfInBounds_toArray, List.set_cons_zero, List.set_cons_succ, i64_w, i32_w]
                        rfl
                      refine done_ (done_of HT_.out (by kernel_rfl)) ?_
                      try go_wp2
                      go_roundg k1
                      case measure => have := HK1.out; omega
                      case rel => exact ⟨(wrap64 ((wrap64 ((wrap64 ((wrap64 ((wrap64 ((wrap64 (x1_1 + 1)) + 1)) + 1)) + 1)) + 1)) + 1)), (wrap64 (x5_1 + 1)), (by first | rfl | (simp; done) | (simp [*]; done)), (by first | rfl | (simp; done) | (simp [*]; done)), H', ⟨by have := HK1.out; omega⟩, ⟨by repeat (first | (with_reducible first | exact HB.out | apply below_alloc | apply pw_below_drewN | apply below_drew1) | exact HB.out)⟩⟩
                    · rw [if_neg c11] at H
                      have c11b0 : (((rd_T106 l0 x5_1).f3.f2).toList == t400.toList) = false := beq_eq_false_iff_ne.mpr c11
                      have c11b1 : (((rd_T106 l0 x5_1).f3.f2).toList != t400.toList) = true := bne_iff_ne.mpr c11
                      obtain rfl := Option.some.inj H
                      have p394 : 0 ≤ (x5_1 : Int) := of_decide_eq_true (by first | (with_reducible assumption) | assumption)
                      have q394 : x5_1 < (l0.length : Int) := of_decide_eq_true (by first | (with_reducible assumption) | assumption)
                      obtain ⟨ad394, e394, hx394_0, hx394_1, hx394_2, hx394_3, hx394_4, hx394_5⟩ := at_T106 HR0.out x5_1 p394 q394
                      cases e394
                      replace hx394_0 := (HB.out.cell (World.block_lt_of_cell? w _ hx394_0)).trans hx394_0
                      replace hx394_1 := (HB.out.cell (World.block_lt_of_cell? w _ hx394_1)).trans hx394_1
                      replace hx394_2 := (HB.out.cell (World.block_lt_of_cell? w _ hx394_2)).trans hx394_2
                      replace hx394_3 := (HB.out.cell (World.block_lt_of_cell? w _ hx394_3)).trans hx394_3
                      replace hx394_4 := (HB.out.cell (World.block_lt_of_cell? w _ hx394_4)).trans hx394_4
                      replace hx394_5 := (HB.out.cell (World.block_lt_of_cell? w _ hx394_5)).trans hx394_5
                      replace p394 := eq_true p394
                      replace q394 := eq_true q394
                      have p395 : 0 ≤ (x5_1 : Int) := of_decide_eq_true (by first | (with_reducible assumption) | assumption)
                      have q395 : x5_1 < (l0.length : Int) := of_decide_eq_true (by first | (with_reducible assumption) | assumption)
                      obtain ⟨ad395, e395, hx395_0, hx395_1, hx395_2, hx395_3, hx395_4, hx395_5⟩ := at_T106 HR0.out x5_1 p395 q395
                      obtain rfl : ad394 = ad395 := (by injection e395)
                      replace hx395_0 := (HB.out.cell (World.block_lt_of_cell? w _ hx395_0)).trans hx395_0
                      replace hx395_1 := (HB.out.cell (World.block_lt_of_cell? w _ hx395_1)).trans hx395_1
                      replace hx395_2 := (HB.out.cell (World.block_lt_of_cell? w _ hx395_2)).trans hx395_2
                      replace hx395_3 := (HB.out.cell (World.block_lt_of_cell? w _ hx395_3)).trans hx395_3
                      replace hx395_4 := (HB.out.cell (World.block_lt_of_cell? w _ hx395_4)).trans hx395_4
                      replace hx395_5 := (HB.out.cell (World.block_lt_of_cell? w _ hx395_5)).trans hx395_5
                      replace p395 := eq_true p395
                      replace q395 := eq_true q395
                      have p396 : 0 ≤ (x5_1 : Int) := of_decide_eq_true (by first | (with_reducible assumption) | assumption)
                      have q396 : x5_1 < (l0.length : Int) := of_decide_eq_true (by first | (with_reducible assumption) | assumption)
                      obtain ⟨ad396, e396, hx396_0, hx396_1, hx396_2, hx396_3, hx396_4, hx396_5⟩ := at_T106 HR0.out x5_1 p396 q396
                      obtain rfl : ad394 = ad396 := (by injection e396)
                      replace hx396_0 := (HB.out.cell (World.block_lt_of_cell? w _ hx396_0)).trans hx396_0
                      replace hx396_1 := (HB.out.cell (World.block_lt_of_cell? w _ hx396_1)).trans hx396_1
                      replace hx396_2 := (HB.out.cell (World.block_lt_of_cell? w _ hx396_2)).trans hx396_2
                      replace hx396_3 := (HB.out.cell (World.block_lt_of_cell? w _ hx396_3)).trans hx396_3
                      replace hx396_4 := (HB.out.cell (World.block_lt_of_cell? w _ hx396_4)).trans hx396_4
                      replace hx396_5 := (HB.out.cell (World.block_lt_of_cell? w _ hx396_5)).trans hx396_5
                      replace p396 := eq_true p396
                      replace q396 := eq_true q396
                      have p397 : 0 ≤ (x5_1 : Int) := of_decide_eq_true (by first | (with_reducible assumption) | assumption)
                      have q397 : x5_1 < (l0.length : Int) := of_decide_eq_true (by first | (with_reducible assumption) | assumption)
                      obtain ⟨ad397, e397, hx397_0, hx397_1, hx397_2, hx397_3, hx397_4, hx397_5⟩ := at_T106 HR0.out x5_1 p397 q397
                      obtain rfl : ad394 = ad397 := (by injection e397)
                      replace hx397_0 := (HB.out.cell (World.block_lt_of_cell? w _ hx397_0)).trans hx397_0
                      replace hx397_1 := (HB.out.cell (World.block_lt_of_cell? w _ hx397_1)).trans hx397_1
                      replace hx397_2 := (HB.out.cell (World.block_lt_of_cell? w _ hx397_2)).trans hx397_2
                      replace hx397_3 := (HB.out.cell (World.block_lt_of_cell? w _ hx397_3)).trans hx397_3
                      replace hx397_4 := (HB.out.cell (World.block_lt_of_cell? w _ hx397_4)).trans hx397_4
                      replace hx397_5 := (HB.out.cell (World.block_lt_of_cell? w _ hx397_5)).trans hx397_5
                      replace p397 := eq_true p397
                      replace q397 := eq_true q397
                      have p398 : 0 ≤ (x5_1 : Int) := of_decide_eq_true (by first | (with_reducible assumption) | assumption)
                      have q398 : x5_1 < (l0.length : Int) := of_decide_eq_true (by first | (with_reducible assumption) | assumption)
                      obtain ⟨ad398, e398, hx398_0, hx398_1, hx398_2, hx398_3, hx398_4, hx398_5⟩ := at_T106 HR0.out x5_1 p398 q398
                      obtain rfl : ad394 = ad398 := (by injection e398)
                      replace hx398_0 := (HB.out.cell (World.block_lt_of_cell? w _ hx398_0)).trans hx398_0
                      replace hx398_1 := (HB.out.cell (World.block_lt_of_cell? w _ hx398_1)).trans hx398_1
                      replace hx398_2 := (HB.out.cell (World.block_lt_of_cell? w _ hx398_2)).trans hx398_2
                      replace hx398_3 := (HB.out.cell (World.block_lt_of_cell? w _ hx398_3)).trans hx398_3
                      replace hx398_4 := (HB.out.cell (World.block_lt_of_cell? w _ hx398_4)).trans hx398_4
                      replace hx398_5 := (HB.out.cell (World.block_lt_of_cell? w _ hx398_5)).trans hx398_5
                      replace p398 := eq_true p398
                      replace q398 := eq_true q398
                      try go_wp2
                      have n0_ := Aside0.mk (below_drew1 HB.out)
                      clear HB
                      have HB := n0_
                      clear n0_
                      have p399 : 0 ≤ (x5_1 : Int) := of_decide_eq_true (by first | (with_reducible assumption) | assumption)
                      have q399 : x5_1 < (l0.length : Int) := of_decide_eq_true (by first | (with_reducible assumption) | assumption)
                      obtain ⟨ad399, e399, hx399_0, hx399_1, hx399_2, hx399_3, hx399_4, hx399_5⟩ := at_T106 HR0.out x5_1 p399 q399
                      have hw399_5 := hx399_5
                      have hw399_4 := hx399_4
                      have hw399_3 := hx399_3
                      have hw399_2 := hx399_2
                      have hw399_1 := hx399_1
                      have hw399_0 := hx399_0
                      obtain rfl : ad394 = ad399 := (by injection e399)
                      replace hx399_0 := (HB.out.cell (World.block_lt_of_cell? w _ hx399_0)).trans hx399_0
                      replace hx399_1 := (HB.out.cell (World.block_lt_of_cell? w _ hx399_1)).trans hx399_1
                      replace hx399_2 := (HB.out.cell (World.block_lt_of_cell? w _ hx399_2)).trans hx399_2
                      replace hx399_3 := (HB.out.cell (World.block_lt_of_cell? w _ hx399_3)).trans hx399_3
                      replace hx399_4 := (HB.out.cell (World.block_lt_of_cell? w _ hx399_4)).trans hx399_4
                      replace hx399_5 := (HB.out.cell (World.block_lt_of_cell? w _ hx399_5)).trans hx399_5
                      replace p399 := eq_true p399
                      replace q399 := eq_true q399
                      refine start_ (n := 9) (S := fun w' => w'.cell? (ad394.add ((x5_1).toNat * 6)) = some (.int .i64 ((rd_T106 l0 x5_1).f0)) ∧ w'.cell? ⟨(ad394.add ((x5_1).toNat * 6)).block, (ad394.add ((x5_1).toNat * 6)).off + 1, none⟩ = some (.int .i64 ((rd_T106 l0 x5_1).f1)) ∧ w'.cell? ⟨(ad394.add ((x5_1).toNat * 6)).block, (ad394.add ((x5_1).toNat * 6)).off + 2, none⟩ = some (.int .i64 ((rd_T106 l0 x5_1).f2)) ∧ w'.cell? ⟨(ad394.add ((x5_1).toNat * 6)).block, (ad394.add ((x5_1).toNat * 6)).off + 3, none⟩ = some (.int .i64 ((rd_T106 l0 x5_1).f3.f0)) ∧ w'.cell? ⟨(ad394.add ((x5_1).toNat * 6)).block, (ad394.add ((x5_1).toNat * 6)).off + 4, none⟩ = some (.int .i64 ((rd_T106 l0 x5_1).f3.f1)) ∧ w'.cell? ⟨(ad394.add ((x5_1).toNat * 6)).block, (ad394.add ((x5_1).toNat * 6)).off + 5, none⟩ = some (.string ((rd_T106 l0 x5_1).f3.f2))) (ds := []) #[false, false, false, false, false, false, false, false, false] (by kernel_rfl) rfl rfl ⟨((HB.out.cell (World.block_lt_of_cell? w _ hw399_0)).trans hw399_0), ((HB.out.cell (World.block_lt_of_cell? w _ hw399_1)).trans hw399_1), ((HB.out.cell (World.block_lt_of_cell? w _ hw399_2)).trans hw399_2), ((HB.out.cell (World.block_lt_of_cell? w _ hw399_3)).trans hw399_3), ((HB.out.cell (World.block_lt_of_cell? w _ hw399_4)).trans hw399_4), ((HB.out.cell (World.block_lt_of_cell? w _ hw399_5)).trans hw399_5)⟩ (fun hHeld => ?_); refine with_tabW laws_heldAlphaTestS.tab19 laws_heldAlphaTestS.bits19 (fun HT_ HW_ => ?_)
                      generalize wr.drew = w14 at HB hx399_0 hx399_1 hx399_2 hx399_3 hx399_4 hx399_5 hHeld ⊢
                      refine pure_ (i := 0) (N := some 59) (v := ?_) (a' := ?_) #[true, false, false, false, false, false, false, false, false] rfl rfl (any_of HT_.out (by kernel_rfl)) (fun _ _ _ h => h) (Or.inl ⟨by rfl, ?_⟩) ?_ ?_
                      rotate_left
                      · intro w'
                        go_simp
                        with_reducible rfl
                      rotate_left
                      · simp only [Act.put, List.setIfInBounds_toArray, List.set_cons_zero, List.set_cons_succ, i64_w, i32_w]
                        rfl
                      refine pure_ (i := 1) (N := some 60) (v := ?_) (a' := ?_) #[true, true, false, false, false, false, false, false, false] rfl rfl (any_of HT_.out (by kernel_rfl)) (fun _ _ _ h => h) (Or.inl ⟨by rfl, ?_⟩) ?_ ?_
                      rotate_left
                      · intro w'
                        go_simp
                        with_reducible rfl
                      rotate_left
                      · simp only [Act.put, List.setIfInBounds_toArray, List.set_cons_zero, List.set_cons_succ, i64_w, i32_w]
                        rfl
                      refine pure_ (i := 2) (N := some 61) (v := ?_) (a' := ?_) #[true, true, true, false, false, false, false, false, false] rfl rfl (any_of HT_.out (by kernel_rfl)) (fun _ _ _ h => h) (Or.inl ⟨by rfl, ?_⟩) ?_ ?_
                      rotate_left
                      · intro w'
                        go_simp
                        with_reducible rfl
                      rotate_left
                      · simp only [Act.put, List.setIfInBounds_toArray, List.set_cons_zero, List.set_cons_succ, i64_w, i32_w]
                        rfl
                      refine pure_ (i := 3) (N := some 62) (v := ?_) (a' := ?_) #[true, true, true, true, false, false, false, false, false] rfl rfl (any_of HT_.out (by kernel_rfl)) (fun _ _ _ h => h) (Or.inl ⟨by rfl, ?_⟩) ?_ ?_
                      rotate_left
                      · intro w'
                        go_simp
                        with_reducible rfl
                      rotate_left
                      · simp only [Act.put, List.setIfInBounds_toArray, List.set_cons_zero, List.set_cons_succ, i64_w, i32_w]
                        rfl
                      refine pure_ (i := 4) (N := some 63) (v := ?_) (a' := ?_) #[true, true, true, true, true, false, false, false, false] rfl rfl (any_of HT_.out (by kernel_rfl)) (fun _ _ _ h => h) (Or.inl ⟨by rfl, ?_⟩) ?_ ?_
                      rotate_left
                      · intro w'
                        go_simp
                        with_reducible rfl
                      rotate_left
                      · simp only [Act.put, List.setIfInBounds_toArray, List.set_cons_zero, List.set_cons_succ, i64_w, i32_w]
                        rfl
                      refine pure_ (i := 6) (N := some 65) (v := ?_) (a' := ?_) #[true, true, true, true, true, false, true, false, false] rfl rfl (any_of HT_.out (by kernel_rfl)) (fun _ _ _ h => h) (Or.inl ⟨by rfl, ?_⟩) ?_ ?_
                      rotate_left
                      · intro w'
                        go_simp
                        with_reducible rfl
                      rotate_left
                      · simp only [Act.put, List.setIfInBounds_toArray, List.set_cons_zero, List.set_cons_succ, i64_w, i32_w]
                        rfl
                      refine take_ (i := 5) (N := some 64) (v := ?_) (a' := ?_) #[true, true, true, true, true, true, true, false, false] rfl rfl (take_ofW HT_.out HW_.out (by kernel_rfl)) (fun _ _ _ h => h) (Or.inl ⟨by rfl, ?_⟩) hHeld ?_ ?_
                      rotate_left
                      · rintro w' ⟨s0, s1, s2, s3, s4, s5⟩
                        go_simp
                        with_reducible rfl
                      rotate_left
                      · simp only [Act.put, List.setIfInBounds_toArray, List.set_cons_zero, List.set_cons_succ, i64_w, i32_w]
                        rfl
                      refine one_ (i := 7) (N := some 66) #[true, true, true, true, true, true, true, true, false] rfl rfl (one_of HT_.out (by kernel_rfl)) (by decide) (fun K hK => ?_)
                      refine goes_ Try.func88 (by kernel_rfl) rfl #[.int .i64 (wrap64 ((wrap64 ((wrap64 ((wrap64 ((wrap64 (x1_1 + 1)) + 1)) + 1)) + 1)) + 1))] (by rfl) rfl rfl (by (try simp only [List.map_toArray, List.map_cons, List.map_nil]); first | done | rfl | (simp only [List.length_drop, List.length_take]; rfl)) ?_
                      with_reducible refine (laws_markText.calls k1 (wrap64 ((wrap64 ((wrap64 ((wrap64 ((wrap64 (x1_1 + 1)) + 1)) + 1)) + 1)) + 1)) t400 _ A10.out).mono ?_
                      rintro e w15 ⟨rfl, hb⟩
                      refine ⟨_, rfl, ?_⟩
                      have n0_ := Aside0.mk (below_step (by repeat (first | (with_reducible first | exact HB.out | apply below_alloc | apply pw_below_drewN | apply below_drew1) | exact HB.out)) hb)
                      clear HB
                      have HB := n0_
                      clear n0_
                      (try clear hb)
                      (try clear hb2)
                      (try clear hk)
                      (try clear hi)
                      refine hK.out _ _ ⟨((HB.out.cell (World.block_lt_of_cell? w _ hw399_0)).trans hw399_0), ((HB.out.cell (World.block_lt_of_cell? w _ hw399_1)).trans hw399_1), ((HB.out.cell (World.block_lt_of_cell? w _ hw399_2)).trans hw399_2), ((HB.out.cell (World.block_lt_of_cell? w _ hw399_3)).trans hw399_3), ((HB.out.cell (World.block_lt_of_cell? w _ hw399_4)).trans hw399_4), ((HB.out.cell (World.block_lt_of_cell? w _ hw399_5)).trans hw399_5)⟩ (fun hHeld => ?_)
                      clear hK K
                      refine norm_ (a' := ?_) ?_ ?_
                      rotate_left
                      · show Act.put _ (some 66) _ = _
                        simp only [Act.put, List.setIfInBounds_toArray, List.set_cons_zero, List.set_cons_succ, i64_w, i32_w]
                        rfl
                      refine pure_ (i := 8) (N := some 67) (v := ?_) (a' := ?_) #[true, true, true, true, true, true, true, true, true] rfl rfl (any_of HT_.out (by kernel_rfl)) (fun _ _ _ h => h) (Or.inl ⟨by rfl, ?_⟩) ?_ ?_
                      rotate_left
                      · intro w'
                        go_simp
                        with_reducible rfl
                      rotate_left
                      · simp only [Act.put, List.setIfInBounds_toArray, List.set_cons_zero, List.set_cons_succ, i64_w, i32_w]
                        rfl
                      refine done_ (done_of HT_.out (by kernel_rfl)) ?_
                      try go_wp2
                      go_ret
                      exact ⟨by first | rfl | (simp [errW_none, errW_some] <;> rfl) | (simp [*, errW_none, errW_some] <;> rfl), by repeat (first | (with_reducible first | exact HB.out | apply below_alloc | apply pw_below_drewN | apply below_drew1) | exact HB.out)⟩
                  · rw [if_neg c9] at H
                    have c9b0 : (((rd_T106 l0 x5_1).f3.f1) == (wrap64 ((wrap64 ((wrap64 ((wrap64 (x1_1 + 1)) + 1)) + 1)) + 1))) = false := beq_eq_false_iff_ne.mpr c9
                    have c9b1 : (((rd_T106 l0 x5_1).f3.f1) != (wrap64 ((wrap64 ((wrap64 ((wrap64 (x1_1 + 1)) + 1)) + 1)) + 1))) = true := bne_iff_ne.mpr c9
                    obtain rfl := Option.some.inj H
                    have p394 : 0 ≤ (x5_1 : Int) := of_decide_eq_true (by first | (with_reducible assumption) | assumption)
                    have q394 : x5_1 < (l0.length : Int) := of_decide_eq_true (by first | (with_reducible assumption) | assumption)
                    obtain ⟨ad394, e394, hx394_0, hx394_1, hx394_2, hx394_3, hx394_4, hx394_5⟩ := at_T106 HR0.out x5_1 p394 q394
                    cases e394
                    replace hx394_0 := (HB.out.cell (World.block_lt_of_cell? w _ hx394_0)).trans hx394_0
                    replace hx394_1 := (HB.out.cell (World.block_lt_of_cell? w _ hx394_1)).trans hx394_1
                    replace hx394_2 := (HB.out.cell (World.block_lt_of_cell? w _ hx394_2)).trans hx394_2
                    replace hx394_3 := (HB.out.cell (World.block_lt_of_cell? w _ hx394_3)).trans hx394_3
                    replace hx394_4 := (HB.out.cell (World.block_lt_of_cell? w _ hx394_4)).trans hx394_4
                    replace hx394_5 := (HB.out.cell (World.block_lt_of_cell? w _ hx394_5)).trans hx394_5
                    replace p394 := eq_true p394
                    replace q394 := eq_true q394
                    have p395 : 0 ≤ (x5_1 : Int) := of_decide_eq_true (by first | (with_reducible assumption) | assumption)
                    have q395 : x5_1 < (l0.length : Int) := of_decide_eq_true (by first | (with_reducible assumption) | assumption)
                    obtain ⟨ad395, e395, hx395_0, hx395_1, hx395_2, hx395_3, hx395_4, hx395_5⟩ := at_T106 HR0.out x5_1 p395 q395
                    obtain rfl : ad394 = ad395 := (by injection e395)
                    replace hx395_0 := (HB.out.cell (World.block_lt_of_cell? w _ hx395_0)).trans hx395_0
                    replace hx395_1 := (HB.out.cell (World.block_lt_of_cell? w _ hx395_1)).trans hx395_1
                    replace hx395_2 := (HB.out.cell (World.block_lt_of_cell? w _ hx395_2)).trans hx395_2
                    replace hx395_3 := (HB.out.cell (World.block_lt_of_cell? w _ hx395_3)).trans hx395_3
                    replace hx395_4 := (HB.out.cell (World.block_lt_of_cell? w _ hx395_4)).trans hx395_4
                    replace hx395_5 := (HB.out.cell (World.block_lt_of_cell? w _ hx395_5)).trans hx395_5
                    replace p395 := eq_true p395
                    replace q395 := eq_true q395
                    have p396 : 0 ≤ (x5_1 : Int) := of_decide_eq_true (by first | (with_reducible assumption) | assumption)
                    have q396 : x5_1 < (l0.length : Int) := of_decide_eq_true (by first | (with_reducible assumption) | assumption)
                    obtain ⟨ad396, e396, hx396_0, hx396_1, hx396_2, hx396_3, hx396_4, hx396_5⟩ := at_T106 HR0.out x5_1 p396 q396
                    obtain rfl : ad394 = ad396 := (by injection e396)
                    replace hx396_0 := (HB.out.cell (World.block_lt_of_cell? w _ hx396_0)).trans hx396_0
                    replace hx396_1 := (HB.out.cell (World.block_lt_of_cell? w _ hx396_1)).trans hx396_1
                    replace hx396_2 := (HB.out.cell (World.block_lt_of_cell? w _ hx396_2)).trans hx396_2
                    replace hx396_3 := (HB.out.cell (World.block_lt_of_cell? w _ hx396_3)).trans hx396_3
                    replace hx396_4 := (HB.out.cell (World.block_lt_of_cell? w _ hx396_4)).trans hx396_4
                    replace hx396_5 := (HB.out.cell (World.block_lt_of_cell? w _ hx396_5)).trans hx396_5
                    replace p396 := eq_true p396
                    replace q396 := eq_true q396
                    have p397 : 0 ≤ (x5_1 : Int) := of_decide_eq_true (by first | (with_reducible assumption) | assumption)
                    have q397 : x5_1 < (l0.length : Int) := of_decide_eq_true (by first | (with_reducible assumption) | assumption)
                    obtain ⟨ad397, e397, hx397_0, hx397_1, hx397_2, hx397_3, hx397_4, hx397_5⟩ := at_T106 HR0.out x5_1 p397 q397
                    obtain rfl : ad394 = ad397 := (by injection e397)
                    replace hx397_0 := (HB.out.cell (World.block_lt_of_cell? w _ hx397_0)).trans hx397_0
                    replace hx397_1 := (HB.out.cell (World.block_lt_of_cell? w _ hx397_1)).trans hx397_1
                    replace hx397_2 := (HB.out.cell (World.block_lt_of_cell? w _ hx397_2)).trans hx397_2
                    replace hx397_3 := (HB.out.cell (World.block_lt_of_cell? w _ hx397_3)).trans hx397_3
                    replace hx397_4 := (HB.out.cell (World.block_lt_of_cell? w _ hx397_4)).trans hx397_4
                    replace hx397_5 := (HB.out.cell (World.block_lt_of_cell? w _ hx397_5)).trans hx397_5
                    replace p397 := eq_true p397
                    replace q397 := eq_true q397
                    have p398 : 0 ≤ (x5_1 : Int) := of_decide_eq_true (by first | (with_reducible assumption) | assumption)
                    have q398 : x5_1 < (l0.length : Int) := of_decide_eq_true (by first | (with_reducible assumption) | assumption)
                    obtain ⟨ad398, e398, hx398_0, hx398_1, hx398_2, hx398_3, hx398_4, hx398_5⟩ := at_T106 HR0.out x5_1 p398 q398
                    obtain rfl : ad394 = ad398 := (by injection e398)
                    replace hx398_0 := (HB.out.cell (World.block_lt_of_cell? w _ hx398_0)).trans hx398_0
                    replace hx398_1 := (HB.out.cell (World.block_lt_of_cell? w _ hx398_1)).trans hx398_1
                    replace hx398_2 := (HB.out.cell (World.block_lt_of_cell? w _ hx398_2)).trans hx398_2
                    replace hx398_3 := (HB.out.cell (World.block_lt_of_cell? w _ hx398_3)).trans hx398_3
                    replace hx398_4 := (HB.out.cell (World.block_lt_of_cell? w _ hx398_4)).trans hx398_4
                    replace hx398_5 := (HB.out.cell (World.block_lt_of_cell? w _ hx398_5)).trans hx398_5
                    replace p398 := eq_true p398
                    replace q398 := eq_true q398
                    go_wp2
                    go_ret
                    exact ⟨by first | rfl | (simp [errW_none, errW_some] <;> rfl) | (simp [*, errW_none, errW_some] <;> rfl), by repeat (first | (with_reducible first | exact HB.out | apply below_alloc | apply pw_below_drewN | apply below_drew1) | exact HB.out)⟩
                · rw [if_neg c8] at H
                  have c8b0 : (((rd_T106 l0 x5_1).f3.f0) == (wrap64 ((wrap64 ((wrap64 (x1_1 + 1)) + 1)) + 1))) = false := beq_eq_false_iff_ne.mpr c8
                  have c8b1 : (((rd_T106 l0 x5_1).f3.f0) != (wrap64 ((wrap64 ((wrap64 (x1_1 + 1)) + 1)) + 1))) = true := bne_iff_ne.mpr c8
                  obtain rfl := Option.some.inj H
                  have p394 : 0 ≤ (x5_1 : Int) := of_decide_eq_true (by first | (with_reducible assumption) | assumption)
                  have q394 : x5_1 < (l0.length : Int) := of_decide_eq_true (by first | (with_reducible assumption) | assumption)
                  obtain ⟨ad394, e394, hx394_0, hx394_1, hx394_2, hx394_3, hx394_4, hx394_5⟩ := at_T106 HR0.out x5_1 p394 q394
                  cases e394
                  replace hx394_0 := (HB.out.cell (World.block_lt_of_cell? w _ hx394_0)).trans hx394_0
                  replace hx394_1 := (HB.out.cell (World.block_lt_of_cell? w _ hx394_1)).trans hx394_1
                  replace hx394_2 := (HB.out.cell (World.block_lt_of_cell? w _ hx394_2)).trans hx394_2
                  replace hx394_3 := (HB.out.cell (World.block_lt_of_cell? w _ hx394_3)).trans hx394_3
                  replace hx394_4 := (HB.out.cell (World.block_lt_of_cell? w _ hx394_4)).trans hx394_4
                  replace hx394_5 := (HB.out.cell (World.block_lt_of_cell? w _ hx394_5)).trans hx394_5
                  replace p394 := eq_true p394
                  replace q394 := eq_true q394
                  have p395 : 0 ≤ (x5_1 : Int) := of_decide_eq_true (by first | (with_reducible assumption) | assumption)
                  have q395 : x5_1 < (l0.length : Int) := of_decide_eq_true (by first | (with_reducible assumption) | assumption)
                  obtain ⟨ad395, e395, hx395_0, hx395_1, hx395_2, hx395_3, hx395_4, hx395_5⟩ := at_T106 HR0.out x5_1 p395 q395
                  obtain rfl : ad394 = ad395 := (by injection e395)
                  replace hx395_0 := (HB.out.cell (World.block_lt_of_cell? w _ hx395_0)).trans hx395_0
                  replace hx395_1 := (HB.out.cell (World.block_lt_of_cell? w _ hx395_1)).trans hx395_1
                  replace hx395_2 := (HB.out.cell (World.block_lt_of_cell? w _ hx395_2)).trans hx395_2
                  replace hx395_3 := (HB.out.cell (World.block_lt_of_cell? w _ hx395_3)).trans hx395_3
                  replace hx395_4 := (HB.out.cell (World.block_lt_of_cell? w _ hx395_4)).trans hx395_4
                  replace hx395_5 := (HB.out.cell (World.block_lt_of_cell? w _ hx395_5)).trans hx395_5
                  replace p395 := eq_true p395
                  replace q395 := eq_true q395
                  have p396 : 0 ≤ (x5_1 : Int) := of_decide_eq_true (by first | (with_reducible assumption) | assumption)
                  have q396 : x5_1 < (l0.length : Int) := of_decide_eq_true (by first | (with_reducible assumption) | assumption)
                  obtain ⟨ad396, e396, hx396_0, hx396_1, hx396_2, hx396_3, hx396_4, hx396_5⟩ := at_T106 HR0.out x5_1 p396 q396
                  obtain rfl : ad394 = ad396 := (by injection e396)
                  replace hx396_0 := (HB.out.cell (World.block_lt_of_cell? w _ hx396_0)).trans hx396_0
                  replace hx396_1 := (HB.out.cell (World.block_lt_of_cell? w _ hx396_1)).trans hx396_1
                  replace hx396_2 := (HB.out.cell (World.block_lt_of_cell? w _ hx396_2)).trans hx396_2
                  replace hx396_3 := (HB.out.cell (World.block_lt_of_cell? w _ hx396_3)).trans hx396_3
                  replace hx396_4 := (HB.out.cell (World.block_lt_of_cell? w _ hx396_4)).trans hx396_4
                  replace hx396_5 := (HB.out.cell (World.block_lt_of_cell? w _ hx396_5)).trans hx396_5
                  replace p396 := eq_true p396
                  replace q396 := eq_true q396
                  have p397 : 0 ≤ (x5_1 : Int) := of_decide_eq_true (by first | (with_reducible assumption) | assumption)
                  have q397 : x5_1 < (l0.length : Int) := of_decide_eq_true (by first | (with_reducible assumption) | assumption)
                  obtain ⟨ad397, e397, hx397_0, hx397_1, hx397_2, hx397_3, hx397_4, hx397_5⟩ := at_T106 HR0.out x5_1 p397 q397
                  obtain rfl : ad394 = ad397 := (by injection e397)
                  replace hx397_0 := (HB.out.cell (World.block_lt_of_cell? w _ hx397_0)).trans hx397_0
                  replace hx397_1 := (HB.out.cell (World.block_lt_of_cell? w _ hx397_1)).trans hx397_1
                  replace hx397_2 := (HB.out.cell (World.block_lt_of_cell? w _ hx397_2)).trans hx397_2
                  replace hx397_3 := (HB.out.cell (World.block_lt_of_cell? w _ hx397_3)).trans hx397_3
                  replace hx397_4 := (HB.out.cell (World.block_lt_of_cell? w _ hx397_4)).trans hx397_4
                  replace hx397_5 := (HB.out.cell (World.block_lt_of_cell? w _ hx397_5)).trans hx397_5
                  replace p397 := eq_true p397
                  replace q397 := eq_true q397
                  go_wp2
                  go_ret
                  exact ⟨by first | rfl | (simp [errW_none, errW_some] <;> rfl) | (simp [*, errW_none, errW_some] <;> rfl), by repeat (first | (with_reducible first | exact HB.out | apply below_alloc | apply pw_below_drewN | apply below_drew1) | exact HB.out)⟩
              · rw [if_neg c7] at H
                have c7b0 : (((rd_T106 l0 x5_1).f2) == (wrap64 ((wrap64 (x1_1 + 1)) + 1))) = false := beq_eq_false_iff_ne.mpr c7
                have c7b1 : (((rd_T106 l0 x5_1).f2) != (wrap64 ((wrap64 (x1_1 + 1)) + 1))) = true := bne_iff_ne.mpr c7
                obtain rfl := Option.some.inj H
                have p394 : 0 ≤ (x5_1 : Int) := of_decide_eq_true (by first | (with_reducible assumption) | assumption)
                have q394 : x5_1 < (l0.length : Int) := of_decide_eq_true (by first | (with_reducible assumption) | assumption)
                obtain ⟨ad394, e394, hx394_0, hx394_1, hx394_2, hx394_3, hx394_4, hx394_5⟩ := at_T106 HR0.out x5_1 p394 q394
                cases e394
                replace hx394_0 := (HB.out.cell (World.block_lt_of_cell? w _ hx394_0)).trans hx394_0
                replace hx394_1 := (HB.out.cell (World.block_lt_of_cell? w _ hx394_1)).trans hx394_1
                replace hx394_2 := (HB.out.cell (World.block_lt_of_cell? w _ hx394_2)).trans hx394_2
                replace hx394_3 := (HB.out.cell (World.block_lt_of_cell? w _ hx394_3)).trans hx394_3
                replace hx394_4 := (HB.out.cell (World.block_lt_of_cell? w _ hx394_4)).trans hx394_4
                replace hx394_5 := (HB.out.cell (World.block_lt_of_cell? w _ hx394_5)).trans hx394_5
                replace p394 := eq_true p394
                replace q394 := eq_true q394
                have p395 : 0 ≤ (x5_1 : Int) := of_decide_eq_true (by first | (with_reducible assumption) | assumption)
                have q395 : x5_1 < (l0.length : Int) := of_decide_eq_true (by first | (with_reducible assumption) | assumption)
                obtain ⟨ad395, e395, hx395_0, hx395_1, hx395_2, hx395_3, hx395_4, hx395_5⟩ := at_T106 HR0.out x5_1 p395 q395
                obtain rfl : ad394 = ad395 := (by injection e395)
                replace hx395_0 := (HB.out.cell (World.block_lt_of_cell? w _ hx395_0)).trans hx395_0
                replace hx395_1 := (HB.out.cell (World.block_lt_of_cell? w _ hx395_1)).trans hx395_1
                replace hx395_2 := (HB.out.cell (World.block_lt_of_cell? w _ hx395_2)).trans hx395_2
                replace hx395_3 := (HB.out.cell (World.block_lt_of_cell? w _ hx395_3)).trans hx395_3
                replace hx395_4 := (HB.out.cell (World.block_lt_of_cell? w _ hx395_4)).trans hx395_4
                replace hx395_5 := (HB.out.cell (World.block_lt_of_cell? w _ hx395_5)).trans hx395_5
                replace p395 := eq_true p395
                replace q395 := eq_true q395
                have p396 : 0 ≤ (x5_1 : Int) := of_decide_eq_true (by first | (with_reducible assumption) | assumption)
                have q396 : x5_1 < (l0.length : Int) := of_decide_eq_true (by first | (with_reducible assumption) | assumption)
                obtain ⟨ad396, e396, hx396_0, hx396_1, hx396_2, hx396_3, hx396_4, hx396_5⟩ := at_T106 HR0.out x5_1 p396 q396
                obtain rfl : ad394 = ad396 := (by injection e396)
                replace hx396_0 := (HB.out.cell (World.block_lt_of_cell? w _ hx396_0)).trans hx396_0
                replace hx396_1 := (HB.out.cell (World.block_lt_of_cell? w _ hx396_1)).trans hx396_1
                replace hx396_2 := (HB.out.cell (World.block_lt_of_cell? w _ hx396_2)).trans hx396_2
                replace hx396_3 := (HB.out.cell (World.block_lt_of_cell? w _ hx396_3)).trans hx396_3
                replace hx396_4 := (HB.out.cell (World.block_lt_of_cell? w _ hx396_4)).trans hx396_4
                replace hx396_5 := (HB.out.cell (World.block_lt_of_cell? w _ hx396_5)).trans hx396_5
                replace p396 := eq_true p396
                replace q396 := eq_true q396
                go_wp2
                go_ret
                exact ⟨by first | rfl | (simp [errW_none, errW_some] <;> rfl) | (simp [*, errW_none, errW_some] <;> rfl), by repeat (first | (with_reducible first | exact HB.out | apply below_alloc | apply pw_below_drewN | apply below_drew1) | exact HB.out)⟩
            · rw [if_neg c6] at H
              have c6b0 : (((rd_T106 l0 x5_1).f1) == (wrap64 (x1_1 + 1))) = false := beq_eq_false_iff_ne.mpr c6
              have c6b1 : (((rd_T106 l0 x5_1).f1) != (wrap64 (x1_1 + 1))) = true := bne_iff_ne.mpr c6
              obtain rfl := Option.some.inj H
              have p394 : 0 ≤ (x5_1 : Int) := of_decide_eq_true (by first | (with_reducible assumption) | assumption)
              have q394 : x5_1 < (l0.length : Int) := of_decide_eq_true (by first | (with_reducible assumption) | assumption)
              obtain ⟨ad394, e394, hx394_0, hx394_1, hx394_2, hx394_3, hx394_4, hx394_5⟩ := at_T106 HR0.out x5_1 p394 q394
              cases e394
              replace hx394_0 := (HB.out.cell (World.block_lt_of_cell? w _ hx394_0)).trans hx394_0
              replace hx394_1 := (HB.out.cell (World.block_lt_of_cell? w _ hx394_1)).trans hx394_1
              replace hx394_2 := (HB.out.cell (World.block_lt_of_cell? w _ hx394_2)).trans hx394_2
              replace hx394_3 := (HB.out.cell (World.block_lt_of_cell? w _ hx394_3)).trans hx394_3
              replace hx394_4 := (HB.out.cell (World.block_lt_of_cell? w _ hx394_4)).trans hx394_4
              replace hx394_5 := (HB.out.cell (World.block_lt_of_cell? w _ hx394_5)).trans hx394_5
              replace p394 := eq_true p394
              replace q394 := eq_true q394
              have p395 : 0 ≤ (x5_1 : Int) := of_decide_eq_true (by first | (with_reducible assumption) | assumption)
              have q395 : x5_1 < (l0.length : Int) := of_decide_eq_true (by first | (with_reducible assumption) | assumption)
              obtain ⟨ad395, e395, hx395_0, hx395_1, hx395_2, hx395_3, hx395_4, hx395_5⟩ := at_T106 HR0.out x5_1 p395 q395
              obtain rfl : ad394 = ad395 := (by injection e395)
              replace hx395_0 := (HB.out.cell (World.block_lt_of_cell? w _ hx395_0)).trans hx395_0
              replace hx395_1 := (HB.out.cell (World.block_lt_of_cell? w _ hx395_1)).trans hx395_1
              replace hx395_2 := (HB.out.cell (World.block_lt_of_cell? w _ hx395_2)).trans hx395_2
              replace hx395_3 := (HB.out.cell (World.block_lt_of_cell? w _ hx395_3)).trans hx395_3
              replace hx395_4 := (HB.out.cell (World.block_lt_of_cell? w _ hx395_4)).trans hx395_4
              replace hx395_5 := (HB.out.cell (World.block_lt_of_cell? w _ hx395_5)).trans hx395_5
              replace p395 := eq_true p395
              replace q395 := eq_true q395
              go_wp2
              go_ret
              exact ⟨by first | rfl | (simp [errW_none, errW_some] <;> rfl) | (simp [*, errW_none, errW_some] <;> rfl), by repeat (first | (with_reducible first | exact HB.out | apply below_alloc | apply pw_below_drewN | apply below_drew1) | exact HB.out)⟩
          · rw [if_neg c5] at H
            have c5b0 : (((rd_T106 l0 x5_1).f0) == x1_1) = false := beq_eq_false_iff_ne.mpr c5
            have c5b1 : (((rd_T106 l0 x5_1).f0) != x1_1) = true := bne_iff_ne.mpr c5
            obtain rfl := Option.some.inj H
            have p394 : 0 ≤ (x5_1 : Int) := of_decide_eq_true (by first | (with_reducible assumption) | assumption)
            have q394 : x5_1 < (l0.length : Int) := of_decide_eq_true (by first | (with_reducible assumption) | assumption)
            obtain ⟨ad394, e394, hx394_0, hx394_1, hx394_2, hx394_3, hx394_4, hx394_5⟩ := at_T106 HR0.out x5_1 p394 q394
            cases e394
            replace hx394_0 := (HB.out.cell (World.block_lt_of_cell? w _ hx394_0)).trans hx394_0
            replace hx394_1 := (HB.out.cell (World.block_lt_of_cell? w _ hx394_1)).trans hx394_1
            replace hx394_2 := (HB.out.cell (World.block_lt_of_cell? w _ hx394_2)).trans hx394_2
            replace hx394_3 := (HB.out.cell (World.block_lt_of_cell? w _ hx394_3)).trans hx394_3
            replace hx394_4 := (HB.out.cell (World.block_lt_of_cell? w _ hx394_4)).trans hx394_4
            replace hx394_5 := (HB.out.cell (World.block_lt_of_cell? w _ hx394_5)).trans hx394_5
            replace p394 := eq_true p394
            replace q394 := eq_true q394
            go_wp2
            go_ret
            exact ⟨by first | rfl | (simp [errW_none, errW_some] <;> rfl) | (simp [*, errW_none, errW_some] <;> rfl), by repeat (first | (with_reducible first | exact HB.out | apply below_alloc | apply pw_below_drewN | apply below_drew1) | exact HB.out)⟩
        · rw [if_neg c4] at H
          exact absurd H (by simp)
      · rw [if_neg c3] at H
        have c3b0 : decide (x5_1 < (l0.length : Int)) = false := decide_eq_false c3
        clear c3
        obtain rfl := Option.some.inj H
        go_wp2
        go_ret
        exact ⟨by first | rfl | (simp [errW_none, errW_some] <;> rfl) | (simp [*, errW_none, errW_some] <;> rfl), by repeat (first | (with_reducible first | exact HB.out | apply below_alloc | apply pw_below_drewN | apply below_drew1) | exact HB.out)⟩
end Go.Proofs.Ytoncacdehhmpaaa.P
