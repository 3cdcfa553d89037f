/- The row of the law FnExactAlphaMems: for every input the call returns true, and each argument reads behind it as it read before; no condition of ours. -/
import Derived.ChangeArms
import Derived.DataReads
import Derived.WideShapes
import Derived.Test.YtoncacdehhmpaaaQAm6
namespace Go.Proofs.Ytoncacdehhmpaaa.Pure
open Go.RowKit Go.Proofs.Ytoncacdehhmpaaa.P Go.Proofs.YtoncacdehhmpaaaW.PrintWords Go.Proofs.YtoncacdehhmpaaaW.PrintLast Go.Proofs.YtoncacdehhmpaaaX
set_option linter.unusedVariables false
set_option linter.unusedSimpArgs false
def tzIntSS (xs : List (List Int)) : Nat := xs.length + (xs.map List.length).sum
def okIntSS (xs : List (List Int)) : Prop := xs.length ≤ 9223372036854775807 ∧ ∀ x, x ∈ xs → okIntS x
theorem sz_IntS (xs : List Int) (ol : xs.length ≤ 9223372036854775807) (left : Int) (h0 : 0 ≤ left) (h1 : left ≤ 1048576) : laws_szIntS.f xs left = some (szv xs.length left) := by
  have e : wrap64 (left - (xs.length : Int)) = left - (xs.length : Int) := wrap_left h0 h1 ol
  unfold laws_szIntS.f
  rw [e]
  by_cases c : left - (xs.length : Int) < 0
  · rw [if_pos c, szv_neg (by omega)]
  · rw [if_neg c, szv_pos (by omega)]
theorem to_IntS (xs : List Int) (hs : xs.length ≤ 1048576) : Ev (fun k => laws_toIntS.f k xs) xs := by
  have key := to_loop xs (0 : Int) id (fun k out i => laws_toIntS.l0 k xs out i) ?_ ?_ (List.replicate xs.length (0 : Int)) List.length_replicate
  · obtain ⟨K, hK⟩ := key
    refine ⟨K, fun k hk => ?_⟩
    dsimp only
    unfold laws_toIntS.f
    rw [if_pos (by omega), if_pos (by rw [Int.toNat_natCast]; omega), Int.toNat_natCast]
    have := hK k hk
    rw [List.map_id] at this
    exact this
  · intro i out r hi ho h
    obtain ⟨K, hK⟩ := h
    have hrd : rd xs (i : Int) = xs.getD i 0 := by simp [rd]
    refine ⟨K + 1, fun k hk => ?_⟩
    dsimp only
    obtain ⟨m, rfl⟩ : ∃ m, k = m + 1 := ⟨k - 1, by omega⟩
    simp only [laws_toIntS.l0]
    rw [if_pos (by omega), if_pos (by omega), if_pos (by omega), hrd, wrap_succ hi (by omega), Int.toNat_natCast]
    exact hK m (by omega)
  · intro out ho
    refine ⟨1, fun k hk => ?_⟩
    dsimp only
    obtain ⟨m, rfl⟩ : ∃ m, k = m + 1 := ⟨k - 1, by omega⟩
    simp only [laws_toIntS.l0]
    rw [if_neg (by omega)]
theorem eq_IntS (xs : List Int) (hl : xs.length ≤ 9223372036854775807) : Ev (fun k => laws_eqIntS.f k xs xs) true := by
  have key := eq_loop xs.length (fun k i => laws_eqIntS.l0 k xs xs i) ?_ ?_
  · obtain ⟨K, hK⟩ := key
    refine ⟨K, fun k hk => ?_⟩
    dsimp only
    unfold laws_eqIntS.f
    rw [if_pos (by trivial)]
    exact hK k hk
  · intro i hi h
    obtain ⟨K, hK⟩ := h
    refine ⟨K + 1, fun k hk => ?_⟩
    dsimp only
    obtain ⟨m, rfl⟩ : ∃ m, k = m + 1 := ⟨k - 1, by omega⟩
    simp only [laws_eqIntS.l0]
    rw [if_pos (by omega), if_pos (by omega), if_pos (by omega), if_pos (by trivial), wrap_succ hi hl]
    exact hK m (by omega)
  · refine ⟨1, fun k hk => ?_⟩
    dsimp only
    obtain ⟨m, rfl⟩ : ∃ m, k = m + 1 := ⟨k - 1, by omega⟩
    simp only [laws_eqIntS.l0]
    rw [if_neg (by omega)]
theorem rdL_at (xs : List (List Int)) (i : Nat) : rd_L18 xs (i : Int) = xs.getD i [] := by simp [rd_L18]
theorem sz_IntSS (xs : List (List Int)) (hok : okIntSS xs) (left : Int) (h0 : 0 ≤ left) (h1 : left ≤ 1048576) : Ev (fun k => laws_szIntSS.f k xs left) (szv (tzIntSS xs) left) := by
  obtain ⟨ol, oe⟩ := hok
  have e : wrap64 (left - (xs.length : Int)) = left - (xs.length : Int) := wrap_left h0 h1 ol
  refine Ev.congr (fun k => by unfold laws_szIntSS.f; rw [e]) ?_
  by_cases c : left - (xs.length : Int) < 0
  · rw [szv_neg (by unfold tzIntSS; omega)]
    exact Ev.ifT c (Ev.now _)
  · refine Ev.ifF c ?_
    have hz : szv (tzIntSS xs) left = szv (xs.map List.length).sum (left - (xs.length : Int)) := by unfold szv tzIntSS; split <;> split <;> omega
    rw [hz]
    refine sz_loop xs [] List.length (fun k l i => laws_szIntSS.l0 k xs l i) ?_ ?_ (left - (xs.length : Int)) (by omega) (by omega)
    · intro i l r hi g0 g1 hneg hpos
      have s := sz_IntS (xs.getD i []) (oe _ (getD_in _ hi)).1 l g0 g1
      refine Ev.step (fun k => by simp only [laws_szIntSS.l0, rdL_at, wrap_succ hi ol]; exact rfl) ?_
      refine Ev.ifT (by omega) (Ev.ifT (by omega) (Ev.bindE s ?_))
      by_cases c2 : l < ((xs.getD i []).length : Int)
      · rw [hneg c2, szv_neg c2]
        exact Ev.ifT (by omega) (Ev.now _)
      · have d2 : ((xs.getD i []).length : Int) ≤ l := by omega
        rw [szv_pos d2]
        exact Ev.ifF (by omega) (hpos d2)
    · intro l
      refine Ev.step (fun k => by simp only [laws_szIntSS.l0]; exact rfl) ?_
      exact Ev.ifF (by omega) (Ev.now _)
theorem to_IntSS (xs : List (List Int)) (hs : tzIntSS xs ≤ 1048576) : Ev (fun k => laws_toIntSS.f k xs) xs := by
  unfold tzIntSS at hs
  refine Ev.congr (fun k => by unfold laws_toIntSS.f; exact rfl) ?_
  refine Ev.ifT (by omega) (Ev.ifT (by rw [Int.toNat_natCast]; omega) ?_)
  rw [Int.toNat_natCast]
  have key := to_loop xs ([] : List Int) id (fun k out i => laws_toIntSS.l0 k xs out i) ?_ ?_ (List.replicate xs.length []) List.length_replicate
  · rw [List.map_id] at key
    exact key
  · intro i out r hi ho h
    have hm := sum_le_of_mem List.length xs _ (getD_in [] hi)
    have h1 := to_IntS (xs.getD i []) (by omega)
    refine Ev.step (fun k => by simp only [laws_toIntSS.l0, rdL_at, wrap_succ hi (show xs.length ≤ 9223372036854775807 by omega), Int.toNat_natCast]; exact rfl) ?_
    exact Ev.ifT (by omega) (Ev.ifT (by omega) (Ev.bind h1 (Ev.ifT (by omega) h)))
  · intro out ho
    refine Ev.step (fun k => by simp only [laws_toIntSS.l0]; exact rfl) ?_
    exact Ev.ifF (by omega) (Ev.now _)
def leIntSS (xs : List (List Int)) : Prop := xs.length ≤ 9223372036854775807 ∧ ∀ x, x ∈ xs → x.length ≤ 9223372036854775807
theorem leIntSS_cv (xs : List (List Int)) (hs : tzIntSS xs ≤ 1048576) : leIntSS xs := by
  unfold tzIntSS at hs
  exact ⟨by omega, fun x hx => by have := sum_le_of_mem List.length xs x hx; omega⟩
theorem eq_IntSS (xs : List (List Int)) (hl : leIntSS xs) : Ev (fun k => laws_eqIntSS.f k xs xs) true := by
  obtain ⟨hl, he⟩ := hl
  refine Ev.congr (fun k => by unfold laws_eqIntSS.f; exact rfl) ?_
  refine Ev.ifT (by trivial) ?_
  refine eq_loop xs.length (fun k i => laws_eqIntSS.l0 k xs xs i) ?_ ?_
  · intro i hi h
    refine Ev.step (fun k => by simp only [laws_eqIntSS.l0, rdL_at, wrap_succ hi hl]; exact rfl) ?_
    exact Ev.ifT (by omega) (Ev.ifT (by omega) (Ev.ifT (by omega) (Ev.bind (eq_IntS _ (he _ (getD_in [] hi))) (Ev.ifT (by trivial) h))))
  · refine Ev.step (fun k => by simp only [laws_eqIntSS.l0]; exact rfl) ?_
    exact Ev.ifF (by omega) (Ev.now _)
def cvValue (x : S158) : S104 := ⟨x.f0, x.f1, x.f2⟩
def tzValue (x : S158) : Nat := x.f2.size
def okValue (x : S158) : Prop := okInt x.f0 ∧ okInt x.f1 ∧ x.f2.size ≤ 9223372036854775807
def tzValueS (xs : List S158) : Nat := xs.length + (xs.map tzValue).sum
def okValueS (xs : List S158) : Prop := xs.length ≤ 9223372036854775807 ∧ ∀ x, x ∈ xs → okValue x
theorem sz_Value (x : S158) (hok : okValue x) (left : Int) (h0 : 0 ≤ left) (h1 : left ≤ 1048576) : laws_szValue.f x.f0 x.f1 x.f2 left = some (szv (tzValue x) left) := by
  obtain ⟨o0, o1, o2⟩ := hok
  have e2 : wrap64 (left - (x.f2.size : Int)) = left - (x.f2.size : Int) := wrap_left (by omega) (by omega) o2
  by_cases c2 : left - (x.f2.size : Int) < 0
  · have hz : szv (tzValue x) left = -1 := szv_neg (by unfold tzValue; omega)
    rw [hz]
    unfold laws_szValue.f
    rw [e2, if_pos c2]
    try rfl
  · skip
    have hz : szv (tzValue x) left = (left - (x.f2.size : Int)) := by rw [szv_pos (by unfold tzValue; omega)]; unfold tzValue; omega
    rw [hz]
    unfold laws_szValue.f
    rw [e2, if_neg c2]
    try rfl
theorem to_Value (x : S158) : laws_toValue.f x.f0 x.f1 x.f2 = some (x.f0, x.f1, x.f2) := rfl
theorem eq_Value (x : S104) : laws_eqValue.f x.f0 x.f1 x.f2 x.f0 x.f1 x.f2 = some true := by
  unfold laws_eqValue.f
  rw [if_pos (by trivial)]
  rw [if_pos (by trivial)]
  rw [if_pos (by trivial)]
theorem sz_ValueS (xs : List S158) (hok : okValueS xs) (left : Int) (h0 : 0 ≤ left) (h1 : left ≤ 1048576) : Ev (fun k => laws_szValueS.f k xs left) (szv (tzValueS xs) left) := by
  obtain ⟨ol, oe⟩ := hok
  have e : wrap64 (left - (xs.length : Int)) = left - (xs.length : Int) := wrap_left h0 h1 ol
  by_cases c : left - (xs.length : Int) < 0
  · have hz : szv (tzValueS xs) left = -1 := szv_neg (by unfold tzValueS; omega)
    rw [hz]
    refine ⟨0, fun k _ => ?_⟩
    dsimp only
    unfold laws_szValueS.f
    rw [e, if_pos c]
  · have hz : szv (tzValueS xs) left = szv (xs.map tzValue).sum (left - (xs.length : Int)) := by unfold szv tzValueS; split <;> split <;> omega
    rw [hz]
    have key := sz_loop xs z158 tzValue (fun k l i => laws_szValueS.l0 k xs l i) ?_ ?_ (left - (xs.length : Int)) (by omega) (by omega)
    · obtain ⟨K, hK⟩ := key
      refine ⟨K, fun k hk => ?_⟩
      dsimp only
      unfold laws_szValueS.f
      rw [e, if_neg c]
      exact hK k hk
    · intro i l r hi g0 g1 hneg hpos
      have hrd : rd_T158 xs (i : Int) = xs.getD i z158 := by simp [rd_T158]
      have s := sz_Value (xs.getD i z158) (oe _ (getD_in _ hi)) l g0 g1
      by_cases c2 : l < (tzValue (xs.getD i z158) : Int)
      · rw [hneg c2]
        rw [szv_neg c2] at s
        refine ⟨0 + 1, fun k hk => ?_⟩
        dsimp only
        obtain ⟨m, rfl⟩ : ∃ m, k = m + 1 := ⟨k - 1, by omega⟩
        simp only [laws_szValueS.l0]
        rw [if_pos (by omega), if_pos (by omega), hrd, s]
        rfl
      · have d2 : (tzValue (xs.getD i z158) : Int) ≤ l := by omega
        obtain ⟨K2, h2⟩ := hpos d2
        rw [szv_pos d2] at s
        refine ⟨K2 + 1, fun k hk => ?_⟩
        dsimp only
        obtain ⟨m, rfl⟩ : ∃ m, k = m + 1 := ⟨k - 1, by omega⟩
        simp only [laws_szValueS.l0]
        rw [if_pos (by omega), if_pos (by omega), hrd, s]
        simp only [Option.bind_some]
        rw [if_neg (by omega), wrap_succ hi ol]
        exact h2 m (by omega)
    · intro l
      refine ⟨1, fun k hk => ?_⟩
      dsimp only
      obtain ⟨m, rfl⟩ : ∃ m, k = m + 1 := ⟨k - 1, by omega⟩
      simp only [laws_szValueS.l0]
      rw [if_neg (by omega)]
theorem to_ValueS (xs : List S158) (hs : tzValueS xs ≤ 1048576) : Ev (fun k => laws_toValueS.f k xs) (xs.map cvValue) := by
  unfold tzValueS at hs
  have key := to_loop xs z158 cvValue (fun k out i => laws_toValueS.l0 k xs out i) ?_ ?_ (List.replicate xs.length z104) List.length_replicate
  · obtain ⟨K, hK⟩ := key
    refine ⟨K, fun k hk => ?_⟩
    dsimp only
    unfold laws_toValueS.f
    rw [if_pos (by omega), if_pos (by rw [Int.toNat_natCast]; omega), Int.toNat_natCast]
    exact hK k hk
  · intro i out r hi ho h
    obtain ⟨K, hK⟩ := h
    have hrd : rd_T158 xs (i : Int) = xs.getD i z158 := by simp [rd_T158]
    have h1 := to_Value (xs.getD i z158)
    refine ⟨K + 1, fun k hk => ?_⟩
    dsimp only
    obtain ⟨m, rfl⟩ : ∃ m, k = m + 1 := ⟨k - 1, by omega⟩
    simp only [laws_toValueS.l0]
    rw [if_pos (by omega), if_pos (by omega), hrd, h1]
    simp only [Option.bind_some]
    rw [if_pos (by omega), wrap_succ hi (by omega), Int.toNat_natCast]
    exact hK m (by omega)
  · intro out ho
    refine ⟨1, fun k hk => ?_⟩
    dsimp only
    obtain ⟨m, rfl⟩ : ∃ m, k = m + 1 := ⟨k - 1, by omega⟩
    simp only [laws_toValueS.l0]
    rw [if_neg (by omega)]
theorem eq_ValueS (xs : List S104) (hl : xs.length ≤ 9223372036854775807) : Ev (fun k => laws_eqValueS.f k xs xs) true := by
  have key := eq_loop xs.length (fun k i => laws_eqValueS.l0 k xs xs i) ?_ ?_
  · obtain ⟨K, hK⟩ := key
    refine ⟨K, fun k hk => ?_⟩
    dsimp only
    unfold laws_eqValueS.f
    rw [if_pos (by trivial)]
    exact hK k hk
  · intro i hi h
    obtain ⟨K, hK⟩ := h
    have hrd : rd_T104 xs (i : Int) = xs.getD i z104 := by simp [rd_T104]
    have h1 := eq_Value (xs.getD i z104)
    refine ⟨K + 1, fun k hk => ?_⟩
    dsimp only
    obtain ⟨m, rfl⟩ : ∃ m, k = m + 1 := ⟨k - 1, by omega⟩
    simp only [laws_eqValueS.l0]
    rw [if_pos (by omega), if_pos (by omega), if_pos (by omega), hrd, h1]
    simp only [Option.bind_some]
    rw [if_pos (by trivial), wrap_succ hi hl]
    exact hK m (by omega)
  · refine ⟨1, fun k hk => ?_⟩
    dsimp only
    obtain ⟨m, rfl⟩ : ∃ m, k = m + 1 := ⟨k - 1, by omega⟩
    simp only [laws_eqValueS.l0]
    rw [if_neg (by omega)]
def cvAlphaTest (x : S160) : S106 := ⟨x.f0, x.f1, x.f2, (cvValue x.f3)⟩
def tzAlphaTest (x : S160) : Nat := tzValue x.f3
def okAlphaTest (x : S160) : Prop := okInt x.f0 ∧ okInt x.f1 ∧ okInt x.f2 ∧ okValue x.f3
def tzAlphaTestS (xs : List S160) : Nat := xs.length + (xs.map tzAlphaTest).sum
def okAlphaTestS (xs : List S160) : Prop := xs.length ≤ 9223372036854775807 ∧ ∀ x, x ∈ xs → okAlphaTest x
theorem sz_AlphaTest (x : S160) (hok : okAlphaTest x) (left : Int) (h0 : 0 ≤ left) (h1 : left ≤ 1048576) : laws_szAlphaTest.f x.f0 x.f1 x.f2 x.f3.f0 x.f3.f1 x.f3.f2 left = some (szv (tzAlphaTest x) left) := by
  obtain ⟨o0, o1, o2, o3⟩ := hok
  have s3 := sz_Value x.f3 o3 left (by omega) (by omega)
  by_cases c3 : left < ((tzValue x.f3 : Nat) : Int)
  · have hz : szv (tzAlphaTest x) left = -1 := szv_neg (by unfold tzAlphaTest; omega)
    rw [hz]
    rw [szv_neg c3] at s3
    unfold laws_szAlphaTest.f
    rw [s3]
    rfl
  · have d3 : ((tzValue x.f3 : Nat) : Int) ≤ left := by omega
    rw [szv_pos d3] at s3
    have hz : szv (tzAlphaTest x) left = (left - ((tzValue x.f3 : Nat) : Int)) := by rw [szv_pos (by unfold tzAlphaTest; omega)]; unfold tzAlphaTest; omega
    rw [hz]
    unfold laws_szAlphaTest.f
    rw [s3]
    simp only [Option.bind_some]
    rw [if_neg (by omega)]
    try rfl
theorem to_AlphaTest (x : S160) : laws_toAlphaTest.f x.f0 x.f1 x.f2 x.f3.f0 x.f3.f1 x.f3.f2 = some (x.f0, x.f1, x.f2, x.f3.f0, x.f3.f1, x.f3.f2) := rfl
theorem eq_AlphaTest (x : S106) : laws_eqAlphaTest.f x.f0 x.f1 x.f2 x.f3.f0 x.f3.f1 x.f3.f2 x.f0 x.f1 x.f2 x.f3.f0 x.f3.f1 x.f3.f2 = some true := by
  unfold laws_eqAlphaTest.f
  rw [if_pos (by trivial)]
  rw [if_pos (by trivial)]
  rw [if_pos (by trivial)]
  rw [eq_Value x.f3]
  simp only [Option.bind_some]
  rw [if_pos (by trivial)]
theorem sz_AlphaTestS (xs : List S160) (hok : okAlphaTestS xs) (left : Int) (h0 : 0 ≤ left) (h1 : left ≤ 1048576) : Ev (fun k => laws_szAlphaTestS.f k xs left) (szv (tzAlphaTestS xs) left) := by
  obtain ⟨ol, oe⟩ := hok
  have e : wrap64 (left - (xs.length : Int)) = left - (xs.length : Int) := wrap_left h0 h1 ol
  by_cases c : left - (xs.length : Int) < 0
  · have hz : szv (tzAlphaTestS xs) left = -1 := szv_neg (by unfold tzAlphaTestS; omega)
    rw [hz]
    refine ⟨0, fun k _ => ?_⟩
    dsimp only
    unfold laws_szAlphaTestS.f
    rw [e, if_pos c]
  · have hz : szv (tzAlphaTestS xs) left = szv (xs.map tzAlphaTest).sum (left - (xs.length : Int)) := by unfold szv tzAlphaTestS; split <;> split <;> omega
    rw [hz]
    have key := sz_loop xs z160 tzAlphaTest (fun k l i => laws_szAlphaTestS.l0 k xs l i) ?_ ?_ (left - (xs.length : Int)) (by omega) (by omega)
    · obtain ⟨K, hK⟩ := key
      refine ⟨K, fun k hk => ?_⟩
      dsimp only
      unfold laws_szAlphaTestS.f
      rw [e, if_neg c]
      exact hK k hk
    · intro i l r hi g0 g1 hneg hpos
      have hrd : rd_T160 xs (i : Int) = xs.getD i z160 := by simp [rd_T160]
      have s := sz_AlphaTest (xs.getD i z160) (oe _ (getD_in _ hi)) l g0 g1
      by_cases c2 : l < (tzAlphaTest (xs.getD i z160) : Int)
      · rw [hneg c2]
        rw [szv_neg c2] at s
        refine ⟨0 + 1, fun k hk => ?_⟩
        dsimp only
        obtain ⟨m, rfl⟩ : ∃ m, k = m + 1 := ⟨k - 1, by omega⟩
        simp only [laws_szAlphaTestS.l0]
        rw [if_pos (by omega), if_pos (by omega), hrd, s]
        rfl
      · have d2 : (tzAlphaTest (xs.getD i z160) : Int) ≤ l := by omega
        obtain ⟨K2, h2⟩ := hpos d2
        rw [szv_pos d2] at s
        refine ⟨K2 + 1, fun k hk => ?_⟩
        dsimp only
        obtain ⟨m, rfl⟩ : ∃ m, k = m + 1 := ⟨k - 1, by omega⟩
        simp only [laws_szAlphaTestS.l0]
        rw [if_pos (by omega), if_pos (by omega), hrd, s]
        simp only [Option.bind_some]
        rw [if_neg (by omega), wrap_succ hi ol]
        exact h2 m (by omega)
    · intro l
      refine ⟨1, fun k hk => ?_⟩
      dsimp only
      obtain ⟨m, rfl⟩ : ∃ m, k = m + 1 := ⟨k - 1, by omega⟩
      simp only [laws_szAlphaTestS.l0]
      rw [if_neg (by omega)]
theorem to_AlphaTestS (xs : List S160) (hs : tzAlphaTestS xs ≤ 1048576) : Ev (fun k => laws_toAlphaTestS.f k xs) (xs.map cvAlphaTest) := by
  unfold tzAlphaTestS at hs
  have key := to_loop xs z160 cvAlphaTest (fun k out i => laws_toAlphaTestS.l0 k xs out i) ?_ ?_ (List.replicate xs.length z106) List.length_replicate
  · obtain ⟨K, hK⟩ := key
    refine ⟨K, fun k hk => ?_⟩
    dsimp only
    unfold laws_toAlphaTestS.f
    rw [if_pos (by omega), if_pos (by rw [Int.toNat_natCast]; omega), Int.toNat_natCast]
    exact hK k hk
  · intro i out r hi ho h
    obtain ⟨K, hK⟩ := h
    have hrd : rd_T160 xs (i : Int) = xs.getD i z160 := by simp [rd_T160]
    have h1 := to_AlphaTest (xs.getD i z160)
    refine ⟨K + 1, fun k hk => ?_⟩
    dsimp only
    obtain ⟨m, rfl⟩ : ∃ m, k = m + 1 := ⟨k - 1, by omega⟩
    simp only [laws_toAlphaTestS.l0]
    rw [if_pos (by omega), if_pos (by omega), hrd, h1]
    simp only [Option.bind_some]
    rw [if_pos (by omega), wrap_succ hi (by omega), Int.toNat_natCast]
    exact hK m (by omega)
  · intro out ho
    refine ⟨1, fun k hk => ?_⟩
    dsimp only
    obtain ⟨m, rfl⟩ : ∃ m, k = m + 1 := ⟨k - 1, by omega⟩
    simp only [laws_toAlphaTestS.l0]
    rw [if_neg (by omega)]
theorem eq_AlphaTestS (xs : List S106) (hl : xs.length ≤ 9223372036854775807) : Ev (fun k => laws_eqAlphaTestS.f k xs xs) true := by
  have key := eq_loop xs.length (fun k i => laws_eqAlphaTestS.l0 k xs xs i) ?_ ?_
  · obtain ⟨K, hK⟩ := key
    refine ⟨K, fun k hk => ?_⟩
    dsimp only
    unfold laws_eqAlphaTestS.f
    rw [if_pos (by trivial)]
    exact hK k hk
  · intro i hi h
    obtain ⟨K, hK⟩ := h
    have hrd : rd_T106 xs (i : Int) = xs.getD i z106 := by simp [rd_T106]
    have h1 := eq_AlphaTest (xs.getD i z106)
    refine ⟨K + 1, fun k hk => ?_⟩
    dsimp only
    obtain ⟨m, rfl⟩ : ∃ m, k = m + 1 := ⟨k - 1, by omega⟩
    simp only [laws_eqAlphaTestS.l0]
    rw [if_pos (by omega), if_pos (by omega), if_pos (by omega), hrd, h1]
    simp only [Option.bind_some]
    rw [if_pos (by trivial), wrap_succ hi hl]
    exact hK m (by omega)
  · refine ⟨1, fun k hk => ?_⟩
    dsimp only
    obtain ⟨m, rfl⟩ : ∃ m, k = m + 1 := ⟨k - 1, by omega⟩
    simp only [laws_eqAlphaTestS.l0]
    rw [if_neg (by omega)]
def cvAlpha (x : S25) : S34 := ⟨x.f0, x.f1, (x.f2.map cvAlphaTest)⟩
def tzAlpha (x : S25) : Nat := x.f0.size + tzAlphaTestS x.f2
def okAlpha (x : S25) : Prop := x.f0.size ≤ 9223372036854775807 ∧ okInt x.f1 ∧ okAlphaTestS x.f2
def tzAlphaS (xs : List S25) : Nat := xs.length + (xs.map tzAlpha).sum
def okAlphaS (xs : List S25) : Prop := xs.length ≤ 9223372036854775807 ∧ ∀ x, x ∈ xs → okAlpha x
theorem sz_Alpha (x : S25) (hok : okAlpha x) (left : Int) (h0 : 0 ≤ left) (h1 : left ≤ 1048576) : Ev (fun k => laws_szAlpha.f k x.f0 x.f1 x.f2 left) (szv (tzAlpha x) left) := by
  obtain ⟨o0, o1, o2⟩ := hok
  have e0 : wrap64 (left - (x.f0.size : Int)) = left - (x.f0.size : Int) := wrap_left (by omega) (by omega) o0
  by_cases c0 : left - (x.f0.size : Int) < 0
  · have hz : szv (tzAlpha x) left = -1 := szv_neg (by unfold tzAlpha; omega)
    rw [hz]
    refine ⟨0, fun k hk => ?_⟩
    dsimp only
    unfold laws_szAlpha.f
    rw [e0, if_pos c0]
    try rfl
  · skip
    obtain ⟨K2, s2⟩ := sz_AlphaTestS x.f2 o2 (left - (x.f0.size : Int)) (by omega) (by omega)
    by_cases c2 : (left - (x.f0.size : Int)) < ((tzAlphaTestS x.f2 : Nat) : Int)
    · have hz : szv (tzAlpha x) left = -1 := szv_neg (by unfold tzAlpha; omega)
      rw [hz]
      simp only [szv_neg c2] at s2
      refine ⟨K2, fun k hk => ?_⟩
      dsimp only
      unfold laws_szAlpha.f
      rw [e0, if_neg c0]
      rw [s2 k (by omega)]
      rfl
    · have d2 : ((tzAlphaTestS x.f2 : Nat) : Int) ≤ (left - (x.f0.size : Int)) := by omega
      simp only [szv_pos d2] at s2
      have hz : szv (tzAlpha x) left = ((left - (x.f0.size : Int)) - ((tzAlphaTestS x.f2 : Nat) : Int)) := by rw [szv_pos (by unfold tzAlpha; omega)]; unfold tzAlpha; omega
      rw [hz]
      refine ⟨K2, fun k hk => ?_⟩
      dsimp only
      unfold laws_szAlpha.f
      rw [e0, if_neg c0]
      rw [s2 k (by omega)]
      simp only [Option.bind_some]
      rw [if_neg (by omega)]
      try rfl
theorem to_Alpha (x : S25) (hs : tzAlpha x ≤ 1048576) : Ev (fun k => laws_toAlpha.f k x.f0 x.f1 x.f2) (x.f0, x.f1, (x.f2.map cvAlphaTest)) := by
  unfold tzAlpha at hs
  obtain ⟨K2, h2⟩ := to_AlphaTestS x.f2 (by omega)
  dsimp only at h2
  refine ⟨K2, fun k hk => ?_⟩
  dsimp only
  unfold laws_toAlpha.f
  rw [h2 k (by omega)]
  simp only [Option.bind_some]
  try rfl
def leAlpha (x : S34) : Prop := x.f2.length ≤ 9223372036854775807
theorem eq_Alpha (x : S34) (hl : leAlpha x) : Ev (fun k => laws_eqAlpha.f k x.f0 x.f1 x.f2 x.f0 x.f1 x.f2) true := by
  have o2 := hl
  unfold leAlpha at o2
  obtain ⟨K2, h2⟩ := eq_AlphaTestS x.f2 o2
  dsimp only at h2
  refine ⟨K2, fun k hk => ?_⟩
  dsimp only
  unfold laws_eqAlpha.f
  rw [if_pos (by trivial)]
  rw [if_pos (by trivial)]
  rw [h2 k (by omega)]
  simp only [Option.bind_some]
  rw [if_pos (by trivial)]
theorem sz_AlphaS (xs : List S25) (hok : okAlphaS xs) (left : Int) (h0 : 0 ≤ left) (h1 : left ≤ 1048576) : Ev (fun k => laws_szAlphaS.f k xs left) (szv (tzAlphaS xs) left) := by
  obtain ⟨ol, oe⟩ := hok
  have e : wrap64 (left - (xs.length : Int)) = left - (xs.length : Int) := wrap_left h0 h1 ol
  by_cases c : left - (xs.length : Int) < 0
  · have hz : szv (tzAlphaS xs) left = -1 := szv_neg (by unfold tzAlphaS; omega)
    rw [hz]
    refine ⟨0, fun k _ => ?_⟩
    dsimp only
    unfold laws_szAlphaS.f
    rw [e, if_pos c]
  · have hz : szv (tzAlphaS xs) left = szv (xs.map tzAlpha).sum (left - (xs.length : Int)) := by unfold szv tzAlphaS; split <;> split <;> omega
    rw [hz]
    have key := sz_loop xs z25 tzAlpha (fun k l i => laws_szAlphaS.l0 k xs l i) ?_ ?_ (left - (xs.length : Int)) (by omega) (by omega)
    · obtain ⟨K, hK⟩ := key
      refine ⟨K, fun k hk => ?_⟩
      dsimp only
      unfold laws_szAlphaS.f
      rw [e, if_neg c]
      exact hK k hk
    · intro i l r hi g0 g1 hneg hpos
      have hrd : rd_T25 xs (i : Int) = xs.getD i z25 := by simp [rd_T25]
      obtain ⟨K1, s⟩ := sz_Alpha (xs.getD i z25) (oe _ (getD_in _ hi)) l g0 g1
      by_cases c2 : l < (tzAlpha (xs.getD i z25) : Int)
      · rw [hneg c2]
        simp only [szv_neg c2] at s
        refine ⟨K1 + 1, fun k hk => ?_⟩
        dsimp only
        obtain ⟨m, rfl⟩ : ∃ m, k = m + 1 := ⟨k - 1, by omega⟩
        simp only [laws_szAlphaS.l0]
        rw [if_pos (by omega), if_pos (by omega), hrd, s m (by omega)]
        rfl
      · have d2 : (tzAlpha (xs.getD i z25) : Int) ≤ l := by omega
        obtain ⟨K2, h2⟩ := hpos d2
        simp only [szv_pos d2] at s
        refine ⟨K1 + K2 + 1, fun k hk => ?_⟩
        dsimp only
        obtain ⟨m, rfl⟩ : ∃ m, k = m + 1 := ⟨k - 1, by omega⟩
        simp only [laws_szAlphaS.l0]
        rw [if_pos (by omega), if_pos (by omega), hrd, s m (by omega)]
        simp only [Option.bind_some]
        rw [if_neg (by omega), wrap_succ hi ol]
        exact h2 m (by omega)
    · intro l
      refine ⟨1, fun k hk => ?_⟩
      dsimp only
      obtain ⟨m, rfl⟩ : ∃ m, k = m + 1 := ⟨k - 1, by omega⟩
      simp only [laws_szAlphaS.l0]
      rw [if_neg (by omega)]
theorem to_AlphaS (xs : List S25) (hs : tzAlphaS xs ≤ 1048576) : Ev (fun k => laws_toAlphaS.f k xs) (xs.map cvAlpha) := by
  unfold tzAlphaS at hs
  have key := to_loop xs z25 cvAlpha (fun k out i => laws_toAlphaS.l0 k xs out i) ?_ ?_ (List.replicate xs.length z34) List.length_replicate
  · obtain ⟨K, hK⟩ := key
    refine ⟨K, fun k hk => ?_⟩
    dsimp only
    unfold laws_toAlphaS.f
    rw [if_pos (by omega), if_pos (by rw [Int.toNat_natCast]; omega), Int.toNat_natCast]
    exact hK k hk
  · intro i out r hi ho h
    obtain ⟨K, hK⟩ := h
    have hrd : rd_T25 xs (i : Int) = xs.getD i z25 := by simp [rd_T25]
    have hm := sum_le_of_mem tzAlpha xs _ (getD_in z25 hi)
    obtain ⟨K1, h1⟩ := to_Alpha (xs.getD i z25) (by omega)
    dsimp only at h1
    refine ⟨K1 + K + 1, fun k hk => ?_⟩
    dsimp only
    obtain ⟨m, rfl⟩ : ∃ m, k = m + 1 := ⟨k - 1, by omega⟩
    simp only [laws_toAlphaS.l0]
    rw [if_pos (by omega), if_pos (by omega), hrd, h1 m (by omega)]
    simp only [Option.bind_some]
    rw [if_pos (by omega), wrap_succ hi (by omega), Int.toNat_natCast]
    exact hK m (by omega)
  · intro out ho
    refine ⟨1, fun k hk => ?_⟩
    dsimp only
    obtain ⟨m, rfl⟩ : ∃ m, k = m + 1 := ⟨k - 1, by omega⟩
    simp only [laws_toAlphaS.l0]
    rw [if_neg (by omega)]
def leAlphaS (xs : List S34) : Prop := xs.length ≤ 9223372036854775807 ∧ ∀ x, x ∈ xs → leAlpha x
theorem eq_AlphaS (xs : List S34) (hl : leAlphaS xs) : Ev (fun k => laws_eqAlphaS.f k xs xs) true := by
  obtain ⟨hl, he⟩ := hl
  have key := eq_loop xs.length (fun k i => laws_eqAlphaS.l0 k xs xs i) ?_ ?_
  · obtain ⟨K, hK⟩ := key
    refine ⟨K, fun k hk => ?_⟩
    dsimp only
    unfold laws_eqAlphaS.f
    rw [if_pos (by trivial)]
    exact hK k hk
  · intro i hi h
    obtain ⟨K, hK⟩ := h
    have hrd : rd_T34 xs (i : Int) = xs.getD i z34 := by simp [rd_T34]
    obtain ⟨K1, h1⟩ := eq_Alpha (xs.getD i z34) (he _ (getD_in _ hi))
    dsimp only at h1
    refine ⟨K1 + K + 1, fun k hk => ?_⟩
    dsimp only
    obtain ⟨m, rfl⟩ : ∃ m, k = m + 1 := ⟨k - 1, by omega⟩
    simp only [laws_eqAlphaS.l0]
    rw [if_pos (by omega), if_pos (by omega), if_pos (by omega), hrd, h1 m (by omega)]
    simp only [Option.bind_some]
    rw [if_pos (by trivial), wrap_succ hi hl]
    exact hK m (by omega)
  · refine ⟨1, fun k hk => ?_⟩
    dsimp only
    obtain ⟨m, rfl⟩ : ∃ m, k = m + 1 := ⟨k - 1, by omega⟩
    simp only [laws_eqAlphaS.l0]
    rw [if_neg (by omega)]
theorem le_cvAlpha (x : S25) (hs : tzAlpha x ≤ 1048576) : leAlpha (cvAlpha x) := by
  unfold tzAlpha at hs
  exact by show (x.f2.map cvAlphaTest).length ≤ _; rw [List.length_map]; unfold tzAlphaTestS at hs; omega
theorem le_cvAlphaS (xs : List S25) (hs : tzAlphaS xs ≤ 1048576) : leAlphaS (xs.map cvAlpha) := by
  unfold tzAlphaS at hs
  refine ⟨by rw [List.length_map]; omega, fun y hy => ?_⟩
  obtain ⟨x, hx, rfl⟩ := List.mem_map.1 hy
  have := sum_le_of_mem tzAlpha xs x hx
  exact le_cvAlpha x (by omega)
def cvNet (x : S75) : S81 := ⟨(x.f0.map cvAlpha), x.f1⟩
def tzNet (x : S75) : Nat := tzAlphaS x.f0 + tzIntSS x.f1
def okNet (x : S75) : Prop := okAlphaS x.f0 ∧ okIntSS x.f1
theorem sz_Net (x : S75) (hok : okNet x) (left : Int) (h0 : 0 ≤ left) (h1 : left ≤ 1048576) : Ev (fun k => laws_szNet.f k x.f0 x.f1 left) (szv (tzNet x) left) := by
  obtain ⟨o0, o1⟩ := hok
  obtain ⟨K0, s0⟩ := sz_AlphaS x.f0 o0 left (by omega) (by omega)
  by_cases c0 : left < ((tzAlphaS x.f0 : Nat) : Int)
  · have hz : szv (tzNet x) left = -1 := szv_neg (by unfold tzNet; omega)
    rw [hz]
    simp only [szv_neg c0] at s0
    refine ⟨K0, fun k hk => ?_⟩
    dsimp only
    unfold laws_szNet.f
    rw [s0 k (by omega)]
    rfl
  · have d0 : ((tzAlphaS x.f0 : Nat) : Int) ≤ left := by omega
    simp only [szv_pos d0] at s0
    obtain ⟨K1, s1⟩ := sz_IntSS x.f1 o1 (left - ((tzAlphaS x.f0 : Nat) : Int)) (by omega) (by omega)
    by_cases c1 : (left - ((tzAlphaS x.f0 : Nat) : Int)) < ((tzIntSS x.f1 : Nat) : Int)
    · have hz : szv (tzNet x) left = -1 := szv_neg (by unfold tzNet; omega)
      rw [hz]
      simp only [szv_neg c1] at s1
      refine ⟨K0 + K1, fun k hk => ?_⟩
      dsimp only
      unfold laws_szNet.f
      rw [s0 k (by omega)]
      simp only [Option.bind_some]
      rw [if_neg (by omega)]
      rw [s1 k (by omega)]
      rfl
    · have d1 : ((tzIntSS x.f1 : Nat) : Int) ≤ (left - ((tzAlphaS x.f0 : Nat) : Int)) := by omega
      simp only [szv_pos d1] at s1
      have hz : szv (tzNet x) left = ((left - ((tzAlphaS x.f0 : Nat) : Int)) - ((tzIntSS x.f1 : Nat) : Int)) := by rw [szv_pos (by unfold tzNet; omega)]; unfold tzNet; omega
      rw [hz]
      refine ⟨K0 + K1, fun k hk => ?_⟩
      dsimp only
      unfold laws_szNet.f
      rw [s0 k (by omega)]
      simp only [Option.bind_some]
      rw [if_neg (by omega)]
      rw [s1 k (by omega)]
      simp only [Option.bind_some]
      rw [if_neg (by omega)]
      try rfl
theorem to_Net (x : S75) (hs : tzNet x ≤ 1048576) : Ev (fun k => laws_toNet.f k x.f0 x.f1) ((x.f0.map cvAlpha), x.f1) := by
  unfold tzNet at hs
  obtain ⟨K0, h0⟩ := to_AlphaS x.f0 (by omega)
  dsimp only at h0
  obtain ⟨K1, h1⟩ := to_IntSS x.f1 (by omega)
  dsimp only at h1
  refine ⟨K0 + K1, fun k hk => ?_⟩
  dsimp only
  unfold laws_toNet.f
  rw [h0 k (by omega)]
  simp only [Option.bind_some]
  rw [h1 k (by omega)]
  simp only [Option.bind_some]
  try rfl
def leNet (x : S81) : Prop := leAlphaS x.f0 ∧ leIntSS x.f1
theorem eq_Net (x : S81) (hl : leNet x) : Ev (fun k => laws_eqNet.f k x.f0 x.f1 x.f0 x.f1) true := by
  obtain ⟨o0, o1⟩ := hl
  obtain ⟨K0, h0⟩ := eq_AlphaS x.f0 o0
  dsimp only at h0
  obtain ⟨K1, h1⟩ := eq_IntSS x.f1 o1
  dsimp only at h1
  refine ⟨K0 + K1, fun k hk => ?_⟩
  dsimp only
  unfold laws_eqNet.f
  rw [h0 k (by omega)]
  simp only [Option.bind_some]
  rw [if_pos (by trivial)]
  rw [h1 k (by omega)]
  simp only [Option.bind_some]
  rw [if_pos (by trivial)]
theorem le_cvNet (x : S75) (hs : tzNet x ≤ 1048576) : leNet (cvNet x) := by
  unfold tzNet at hs
  exact ⟨le_cvAlphaS x.f0 (by omega), leIntSS_cv x.f1 (by omega)⟩
def cvFact (x : S28) : S38 := ⟨x.f0, x.f1, (x.f2.map cvValue)⟩
def tzFact (x : S28) : Nat := x.f1.size + tzValueS x.f2
def okFact (x : S28) : Prop := okInt x.f0 ∧ x.f1.size ≤ 9223372036854775807 ∧ okValueS x.f2
def tzFactS (xs : List S28) : Nat := xs.length + (xs.map tzFact).sum
def okFactS (xs : List S28) : Prop := xs.length ≤ 9223372036854775807 ∧ ∀ x, x ∈ xs → okFact x
theorem sz_Fact (x : S28) (hok : okFact x) (left : Int) (h0 : 0 ≤ left) (h1 : left ≤ 1048576) : Ev (fun k => laws_szFact.f k x.f0 x.f1 x.f2 left) (szv (tzFact x) left) := by
  obtain ⟨o0, o1, o2⟩ := hok
  have e1 : wrap64 (left - (x.f1.size : Int)) = left - (x.f1.size : Int) := wrap_left (by omega) (by omega) o1
  by_cases c1 : left - (x.f1.size : Int) < 0
  · have hz : szv (tzFact x) left = -1 := szv_neg (by unfold tzFact; omega)
    rw [hz]
    refine ⟨0, fun k hk => ?_⟩
    dsimp only
    unfold laws_szFact.f
    rw [e1, if_pos c1]
    try rfl
  · skip
    obtain ⟨K2, s2⟩ := sz_ValueS x.f2 o2 (left - (x.f1.size : Int)) (by omega) (by omega)
    by_cases c2 : (left - (x.f1.size : Int)) < ((tzValueS x.f2 : Nat) : Int)
    · have hz : szv (tzFact x) left = -1 := szv_neg (by unfold tzFact; omega)
      rw [hz]
      simp only [szv_neg c2] at s2
      refine ⟨K2, fun k hk => ?_⟩
      dsimp only
      unfold laws_szFact.f
      rw [e1, if_neg c1]
      rw [s2 k (by omega)]
      rfl
    · have d2 : ((tzValueS x.f2 : Nat) : Int) ≤ (left - (x.f1.size : Int)) := by omega
      simp only [szv_pos d2] at s2
      have hz : szv (tzFact x) left = ((left - (x.f1.size : Int)) - ((tzValueS x.f2 : Nat) : Int)) := by rw [szv_pos (by unfold tzFact; omega)]; unfold tzFact; omega
      rw [hz]
      refine ⟨K2, fun k hk => ?_⟩
      dsimp only
      unfold laws_szFact.f
      rw [e1, if_neg c1]
      rw [s2 k (by omega)]
      simp only [Option.bind_some]
      rw [if_neg (by omega)]
      try rfl
theorem to_Fact (x : S28) (hs : tzFact x ≤ 1048576) : Ev (fun k => laws_toFact.f k x.f0 x.f1 x.f2) (x.f0, x.f1, (x.f2.map cvValue)) := by
  unfold tzFact at hs
  obtain ⟨K2, h2⟩ := to_ValueS x.f2 (by omega)
  dsimp only at h2
  refine ⟨K2, fun k hk => ?_⟩
  dsimp only
  unfold laws_toFact.f
  rw [h2 k (by omega)]
  simp only [Option.bind_some]
  try rfl
def leFact (x : S38) : Prop := x.f2.length ≤ 9223372036854775807
theorem eq_Fact (x : S38) (hl : leFact x) : Ev (fun k => laws_eqFact.f k x.f0 x.f1 x.f2 x.f0 x.f1 x.f2) true := by
  have o2 := hl
  unfold leFact at o2
  obtain ⟨K2, h2⟩ := eq_ValueS x.f2 o2
  dsimp only at h2
  refine ⟨K2, fun k hk => ?_⟩
  dsimp only
  unfold laws_eqFact.f
  rw [if_pos (by trivial)]
  rw [if_pos (by trivial)]
  rw [h2 k (by omega)]
  simp only [Option.bind_some]
  rw [if_pos (by trivial)]
theorem sz_FactS (xs : List S28) (hok : okFactS xs) (left : Int) (h0 : 0 ≤ left) (h1 : left ≤ 1048576) : Ev (fun k => laws_szFactS.f k xs left) (szv (tzFactS xs) left) := by
  obtain ⟨ol, oe⟩ := hok
  have e : wrap64 (left - (xs.length : Int)) = left - (xs.length : Int) := wrap_left h0 h1 ol
  by_cases c : left - (xs.length : Int) < 0
  · have hz : szv (tzFactS xs) left = -1 := szv_neg (by unfold tzFactS; omega)
    rw [hz]
    refine ⟨0, fun k _ => ?_⟩
    dsimp only
    unfold laws_szFactS.f
    rw [e, if_pos c]
  · have hz : szv (tzFactS xs) left = szv (xs.map tzFact).sum (left - (xs.length : Int)) := by unfold szv tzFactS; split <;> split <;> omega
    rw [hz]
    have key := sz_loop xs z28 tzFact (fun k l i => laws_szFactS.l0 k xs l i) ?_ ?_ (left - (xs.length : Int)) (by omega) (by omega)
    · obtain ⟨K, hK⟩ := key
      refine ⟨K, fun k hk => ?_⟩
      dsimp only
      unfold laws_szFactS.f
      rw [e, if_neg c]
      exact hK k hk
    · intro i l r hi g0 g1 hneg hpos
      have hrd : rd_T28 xs (i : Int) = xs.getD i z28 := by simp [rd_T28]
      obtain ⟨K1, s⟩ := sz_Fact (xs.getD i z28) (oe _ (getD_in _ hi)) l g0 g1
      by_cases c2 : l < (tzFact (xs.getD i z28) : Int)
      · rw [hneg c2]
        simp only [szv_neg c2] at s
        refine ⟨K1 + 1, fun k hk => ?_⟩
        dsimp only
        obtain ⟨m, rfl⟩ : ∃ m, k = m + 1 := ⟨k - 1, by omega⟩
        simp only [laws_szFactS.l0]
        rw [if_pos (by omega), if_pos (by omega), hrd, s m (by omega)]
        rfl
      · have d2 : (tzFact (xs.getD i z28) : Int) ≤ l := by omega
        obtain ⟨K2, h2⟩ := hpos d2
        simp only [szv_pos d2] at s
        refine ⟨K1 + K2 + 1, fun k hk => ?_⟩
        dsimp only
        obtain ⟨m, rfl⟩ : ∃ m, k = m + 1 := ⟨k - 1, by omega⟩
        simp only [laws_szFactS.l0]
        rw [if_pos (by omega), if_pos (by omega), hrd, s m (by omega)]
        simp only [Option.bind_some]
        rw [if_neg (by omega), wrap_succ hi ol]
        exact h2 m (by omega)
    · intro l
      refine ⟨1, fun k hk => ?_⟩
      dsimp only
      obtain ⟨m, rfl⟩ : ∃ m, k = m + 1 := ⟨k - 1, by omega⟩
      simp only [laws_szFactS.l0]
      rw [if_neg (by omega)]
theorem to_FactS (xs : List S28) (hs : tzFactS xs ≤ 1048576) : Ev (fun k => laws_toFactS.f k xs) (xs.map cvFact) := by
  unfold tzFactS at hs
  have key := to_loop xs z28 cvFact (fun k out i => laws_toFactS.l0 k xs out i) ?_ ?_ (List.replicate xs.length z38) List.length_replicate
  · obtain ⟨K, hK⟩ := key
    refine ⟨K, fun k hk => ?_⟩
    dsimp only
    unfold laws_toFactS.f
    rw [if_pos (by omega), if_pos (by rw [Int.toNat_natCast]; omega), Int.toNat_natCast]
    exact hK k hk
  · intro i out r hi ho h
    obtain ⟨K, hK⟩ := h
    have hrd : rd_T28 xs (i : Int) = xs.getD i z28 := by simp [rd_T28]
    have hm := sum_le_of_mem tzFact xs _ (getD_in z28 hi)
    obtain ⟨K1, h1⟩ := to_Fact (xs.getD i z28) (by omega)
    dsimp only at h1
    refine ⟨K1 + K + 1, fun k hk => ?_⟩
    dsimp only
    obtain ⟨m, rfl⟩ : ∃ m, k = m + 1 := ⟨k - 1, by omega⟩
    simp only [laws_toFactS.l0]
    rw [if_pos (by omega), if_pos (by omega), hrd, h1 m (by omega)]
    simp only [Option.bind_some]
    rw [if_pos (by omega), wrap_succ hi (by omega), Int.toNat_natCast]
    exact hK m (by omega)
  · intro out ho
    refine ⟨1, fun k hk => ?_⟩
    dsimp only
    obtain ⟨m, rfl⟩ : ∃ m, k = m + 1 := ⟨k - 1, by omega⟩
    simp only [laws_toFactS.l0]
    rw [if_neg (by omega)]
def leFactS (xs : List S38) : Prop := xs.length ≤ 9223372036854775807 ∧ ∀ x, x ∈ xs → leFact x
theorem eq_FactS (xs : List S38) (hl : leFactS xs) : Ev (fun k => laws_eqFactS.f k xs xs) true := by
  obtain ⟨hl, he⟩ := hl
  have key := eq_loop xs.length (fun k i => laws_eqFactS.l0 k xs xs i) ?_ ?_
  · obtain ⟨K, hK⟩ := key
    refine ⟨K, fun k hk => ?_⟩
    dsimp only
    unfold laws_eqFactS.f
    rw [if_pos (by trivial)]
    exact hK k hk
  · intro i hi h
    obtain ⟨K, hK⟩ := h
    have hrd : rd_T38 xs (i : Int) = xs.getD i z38 := by simp [rd_T38]
    obtain ⟨K1, h1⟩ := eq_Fact (xs.getD i z38) (he _ (getD_in _ hi))
    dsimp only at h1
    refine ⟨K1 + K + 1, fun k hk => ?_⟩
    dsimp only
    obtain ⟨m, rfl⟩ : ∃ m, k = m + 1 := ⟨k - 1, by omega⟩
    simp only [laws_eqFactS.l0]
    rw [if_pos (by omega), if_pos (by omega), if_pos (by omega), hrd, h1 m (by omega)]
    simp only [Option.bind_some]
    rw [if_pos (by trivial), wrap_succ hi hl]
    exact hK m (by omega)
  · refine ⟨1, fun k hk => ?_⟩
    dsimp only
    obtain ⟨m, rfl⟩ : ∃ m, k = m + 1 := ⟨k - 1, by omega⟩
    simp only [laws_eqFactS.l0]
    rw [if_neg (by omega)]
theorem le_cvFact (x : S28) (hs : tzFact x ≤ 1048576) : leFact (cvFact x) := by
  unfold tzFact at hs
  exact by show (x.f2.map cvValue).length ≤ _; rw [List.length_map]; unfold tzValueS at hs; omega
theorem le_cvFactS (xs : List S28) (hs : tzFactS xs ≤ 1048576) : leFactS (xs.map cvFact) := by
  unfold tzFactS at hs
  refine ⟨by rw [List.length_map]; omega, fun y hy => ?_⟩
  obtain ⟨x, hx, rfl⟩ := List.mem_map.1 hy
  have := sum_le_of_mem tzFact xs x hx
  exact le_cvFact x (by omega)
def mkAlphaTest (a : Int) (_ : S106) : S106 := ⟨a, a + 1, a + 2, ⟨a + 3, a + 4, mtxt (a + 5)⟩⟩
def mnAlphaTest (_ : S106) : Nat := 6
theorem cntAlphaTestS (xs : List S106) : cntL mnAlphaTest xs = 6 * xs.length := cntL_const 6 xs
theorem mark_AlphaTestS (xs : List S106) (a : Int) (hl : xs.length ≤ 9223372036854775807) (h0 : 0 ≤ a) (h1 : a + cntL mnAlphaTest xs ≤ 4611686018427387904) : Ev (fun k => laws_markAlphaTestS.f k xs a) (a + cntL mnAlphaTest xs, mkL mkAlphaTest mnAlphaTest a xs) := by
  refine mark_loop mkAlphaTest mnAlphaTest (fun k ys a i => laws_markAlphaTestS.l0 k ys a i) ?_ ?_ xs a hl h0 h1
  · intro d x t a r hl h0 h1 ih
    unfold mnAlphaTest at h1 ih
    have w0 : wrap64 (a + 1) = a + 1 := by unfold wrap64; omega
    have w1 : wrap64 (a + 1 + 1) = a + 2 := by unfold wrap64; omega
    have w2 : wrap64 (a + 2 + 1) = a + 3 := by unfold wrap64; omega
    have w3 : wrap64 (a + 3 + 1) = a + 4 := by unfold wrap64; omega
    have w4 : wrap64 (a + 4 + 1) = a + 5 := by unfold wrap64; omega
    have w5 : wrap64 (a + 5 + 1) = a + ((6 : Nat) : Int) := by unfold wrap64; omega
    have wi : wrap64 ((d.length : Int) + 1) = ((d.length + 1 : Nat) : Int) := by unfold wrap64; rw [len_mid] at hl; omega
    refine Ev.step (fun k => by simp only [laws_markAlphaTestS.l0]; exact rfl) ?_
    refine Ev.ifT (by rw [len_mid]; omega) ?_
    refine Ev.ifT (by omega) ?_
    simp only [Option.bind_some, rd_T106, Int.toNat_natCast, rd_mid, set_mid, w0, w1, w2, w3, w4, w5, wi]
    refine Ev.bind (mark_text _ (by omega) (by omega)) ?_
    exact ih
  · intro d a
    refine Ev.step (fun k => by simp only [laws_markAlphaTestS.l0]; exact rfl) ?_
    exact Ev.ifF (by omega) (Ev.now _)
def mkValue (a : Int) (_ : S104) : S104 := ⟨a, a + 1, mtxt (a + 2)⟩
def mnValue (_ : S104) : Nat := 3
theorem cntValueS (xs : List S104) : cntL mnValue xs = 3 * xs.length := cntL_const 3 xs
theorem mark_ValueS (xs : List S104) (a : Int) (hl : xs.length ≤ 9223372036854775807) (h0 : 0 ≤ a) (h1 : a + cntL mnValue xs ≤ 4611686018427387904) : Ev (fun k => laws_markValueS.f k xs a) (a + cntL mnValue xs, mkL mkValue mnValue a xs) := by
  refine mark_loop mkValue mnValue (fun k ys a i => laws_markValueS.l0 k ys a i) ?_ ?_ xs a hl h0 h1
  · intro d x t a r hl h0 h1 ih
    unfold mnValue at h1 ih
    have w0 : wrap64 (a + 1) = a + 1 := by unfold wrap64; omega
    have w1 : wrap64 (a + 1 + 1) = a + 2 := by unfold wrap64; omega
    have w2 : wrap64 (a + 2 + 1) = a + ((3 : Nat) : Int) := by unfold wrap64; omega
    have wi : wrap64 ((d.length : Int) + 1) = ((d.length + 1 : Nat) : Int) := by unfold wrap64; rw [len_mid] at hl; omega
    refine Ev.step (fun k => by simp only [laws_markValueS.l0]; exact rfl) ?_
    refine Ev.ifT (by rw [len_mid]; omega) ?_
    refine Ev.ifT (by omega) ?_
    simp only [Option.bind_some, rd_T104, Int.toNat_natCast, rd_mid, set_mid, w0, w1, w2, wi]
    refine Ev.bind (mark_text _ (by omega) (by omega)) ?_
    exact ih
  · intro d a
    refine Ev.step (fun k => by simp only [laws_markValueS.l0]; exact rfl) ?_
    exact Ev.ifF (by omega) (Ev.now _)
def memB (F : List S38) (a : S34) : List Int := (F.filter fun f => alphaPassB a.f0 a.f1 a.f2 f.f1 f.f2).map fun f => f.f0
theorem memB_cons (f : S38) (F : List S38) (a : S34) : memB (f :: F) a = if alphaPassB a.f0 a.f1 a.f2 f.f1 f.f2 = true then f.f0 :: memB F a else memB F a := by
  unfold memB
  rw [List.filter_cons]
  split <;> rfl
theorem memB_length (F : List S38) (a : S34) : (memB F a).length ≤ F.length := by
  unfold memB
  rw [List.length_map]
  exact List.length_filter_le _ _
theorem rdF (F : List S38) (i : Nat) : rd_T38 F (i : Int) = F.getD i z38 := by simp [rd_T38]
theorem rdA (F : List S34) (i : Nat) : rd_T34 F (i : Int) = F.getD i z34 := by simp [rd_T34]
theorem specMems_inner (F : List S38) (hF : F.length ≤ 40) (out : List (List Int)) (as_ : List S34) (ho : out.length ≤ 1048576) (i : Nat) (hi : i < as_.length) (ha : as_.length ≤ 1048576) (a : S34) (hat : a.f2.length ≤ 1048576) (r : List (List Int)) :
    ∀ j, j ≤ F.length → ∀ mem : List Int, mem.length ≤ j → Ev (fun k => spec_AlphaMems.l0 k F (out ++ [mem ++ memB (F.drop j) a]) as_ (as_.length : Int) ((i + 1 : Nat) : Int)) r →
      Ev (fun k => spec_AlphaMems.l1 k F out mem as_ (as_.length : Int) (i : Int) F (F.length : Int) (j : Int) a.f0 a.f1 a.f2) r := by
  have hw := wrap_succ hi (show as_.length ≤ 9223372036854775807 by omega)
  refine up_ind ?_ ?_
  · intro mem hm h
    rw [List.drop_length] at h
    refine Ev.step (fun k => by simp only [spec_AlphaMems.l1, hw]; exact rfl) ?_
    refine Ev.ifF (by omega) (Ev.ifT (by omega) ?_)
    simpa [memB] using h
  · intro j hj ih mem hm h
    rw [drop_getD z38 hj, memB_cons] at h
    refine Ev.step (fun k => by simp only [spec_AlphaMems.l1, rdF, wrap_succ hj (show F.length ≤ 9223372036854775807 by omega)]; exact rfl) ?_
    refine Ev.ifT (by omega) (Ev.ifT (by omega) (Ev.ifT (by omega) (Ev.bind (specAlphaPass_some a.f0 a.f1 a.f2 _ _ _ hat) ?_)))
    refine Ev.ite (fun c => ?_) (fun c => ?_)
    · rw [if_pos c] at h
      refine Ev.ifT (by omega) (ih _ (by simp; omega) ?_)
      simpa using h
    · rw [if_neg c] at h
      exact ih _ (by omega) h
theorem specMems_loop (F : List S38) (hF : F.length ≤ 40) (as_ : List S34) (ha : as_.length ≤ 1048576) (hat : ∀ a, a ∈ as_ → a.f2.length ≤ 1048576) :
    ∀ i, i ≤ as_.length → ∀ out : List (List Int), out.length = i → Ev (fun k => spec_AlphaMems.l0 k F out as_ (as_.length : Int) (i : Int)) (out ++ (as_.drop i).map (memB F)) := by
  refine up_ind ?_ ?_
  · intro out ho
    rw [List.drop_length]
    refine Ev.step (fun k => by simp only [spec_AlphaMems.l0]; exact rfl) ?_
    refine Ev.ifF (by omega) (Ev.as (Ev.now _) (by simp))
  · intro i hi ih out ho
    refine Ev.step (fun k => by simp only [spec_AlphaMems.l0, rdA]; exact rfl) ?_
    refine Ev.ifT (by omega) (Ev.ifT (by omega) (Ev.ifT (by omega) ?_))
    refine specMems_inner F hF out as_ (by omega) i hi ha (as_.getD i z34) (hat _ (getD_in _ hi)) _ 0 (Nat.zero_le _) [] (by simp) ?_
    refine Ev.as (ih _ (by simp; omega)) ?_
    rw [drop_getD z34 hi]
    simp
def memsB (as_ : List S34) (F : List S38) : List (List Int) := if goodFactsB F = true then as_.map (memB F) else []
theorem good_40 (F : List S38) (h : goodFactsB F = true) : F.length ≤ 40 := by
  unfold goodFactsB at h
  simp only [Bool.and_eq_true, decide_eq_true_eq] at h
  exact h.1
theorem specMems_some (as_ : List S34) (of_ : List (List Int)) (F : List S38) (ha : as_.length ≤ 1048576) (hat : ∀ a, a ∈ as_ → a.f2.length ≤ 1048576) : Ev (fun k => spec_AlphaMems.f k as_ of_ F) (memsB as_ F) := by
  refine Ev.congr (fun k => by unfold spec_AlphaMems.f; exact rfl) ?_
  refine Ev.bind (specGoodFacts_some F) ?_
  unfold memsB
  refine Ev.ite (fun c => ?_) (fun c => ?_)
  · rw [if_pos c]
    refine Ev.as (specMems_loop F (good_40 F c) as_ ha hat 0 (Nat.zero_le _) [] rfl) (by simp)
  · rw [if_neg c]; exact Ev.now _
theorem getD_set_self (xs : List (List Int)) (i : Nat) (h : i < xs.length) (v : List Int) : (xs.set i v).getD i [] = v := by
  rw [getD_lt [] (by rw [List.length_set]; exact h)]
  simp
theorem rdL_of (xs : List (List Int)) (i : Nat) : rd_L18 xs (i : Int) = xs.getD i [] := by simp [rd_L18]
theorem implMems_inner (F : List S38) (hF : F.length ≤ 40) (hFs : ∀ f, f ∈ F → f.f2.length ≤ 1048576) (as_ : List S34) (i : Nat) (hi : i < as_.length) (ha : as_.length ≤ 1048576) (a : S34) (hat : a.f2.length ≤ 1048576) (r : List (List Int)) :
    ∀ j, j ≤ F.length → ∀ out : List (List Int), out.length = as_.length → (out.getD i []).length ≤ j → Ev (fun k => impl_AlphaMems.l0 k F (out.set i (out.getD i [] ++ memB (F.drop j) a)) as_ (as_.length : Int) ((i + 1 : Nat) : Int)) r →
      Ev (fun k => impl_AlphaMems.l1 k F out (i : Int) as_ (as_.length : Int) (i : Int) F (F.length : Int) (j : Int) a.f0 a.f1 a.f2) r := by
  have hw := wrap_succ hi (show as_.length ≤ 9223372036854775807 by omega)
  refine up_ind ?_ ?_
  · intro out ho hm h
    rw [List.drop_length] at h
    refine Ev.step (fun k => by simp only [impl_AlphaMems.l1, hw]; exact rfl) ?_
    refine Ev.ifF (by omega) ?_
    have e : out.set i (out.getD i [] ++ memB [] a) = out := by
      rw [show memB [] a = [] from rfl, List.append_nil, getD_lt [] (by omega)]
      exact List.set_getElem_self (by omega)
    rw [e] at h
    exact h
  · intro j hj ih out ho hm h
    rw [drop_getD z38 hj, memB_cons] at h
    refine Ev.step (fun k => by simp only [impl_AlphaMems.l1, rdF, rdL_of, Int.toNat_natCast, wrap_succ hj (show F.length ≤ 9223372036854775807 by omega)]; exact rfl) ?_
    refine Ev.ifT (by omega) (Ev.ifT (by omega) (Ev.ifT (by omega) ?_))
    have hfs := hFs _ (getD_in z38 hj)
    refine Ev.bindE (show impl_AlphaPass.f a.f0 a.f1 a.f2 (F.getD j z38).f0 (F.getD j z38).f1 (F.getD j z38).f2 = some (alphaPassB a.f0 a.f1 a.f2 (F.getD j z38).f1 (F.getD j z38).f2) by unfold impl_AlphaPass.f; rw [if_pos ⟨by unfold bigN; omega, by unfold bigN; omega⟩]) ?_
    refine Ev.ite (fun c => ?_) (fun c => ?_)
    · rw [if_pos c] at h
      refine Ev.ifT (by omega) (Ev.ifT (by omega) (Ev.ifT (by omega) (ih _ (by simp; omega) ?_ ?_)))
      · rw [getD_set_self _ _ (by omega), List.length_append, List.length_singleton]
        omega
      · rw [getD_set_self _ _ (by omega), List.set_set]
        simpa using h
    · rw [if_neg c] at h
      exact ih _ ho (by omega) h
theorem implMems_loop (F : List S38) (hF : F.length ≤ 40) (hFs : ∀ f, f ∈ F → f.f2.length ≤ 1048576) (as_ : List S34) (ha : as_.length ≤ 1048576) (hat : ∀ a, a ∈ as_ → a.f2.length ≤ 1048576) :
    ∀ i, i ≤ as_.length → ∀ out : List (List Int), out.length = as_.length → (∀ j, i ≤ j → j < as_.length → out.getD j [] = []) → Ev (fun k => impl_AlphaMems.l0 k F out as_ (as_.length : Int) (i : Int)) (out.take i ++ (as_.drop i).map (memB F)) := by
  refine up_ind ?_ ?_
  · intro out ho hz
    rw [List.drop_length, List.map_nil, List.append_nil, ← ho, List.take_length, ho]
    refine Ev.step (fun k => by simp only [impl_AlphaMems.l0]; exact rfl) ?_
    exact Ev.ifF (by omega) (Ev.now _)
  · intro i hi ih out ho hz
    refine Ev.step (fun k => by simp only [impl_AlphaMems.l0, rdA]; exact rfl) ?_
    refine Ev.ifT (by omega) (Ev.ifT (by omega) (Ev.ifT (by omega) ?_))
    refine implMems_inner F hF hFs as_ i hi ha (as_.getD i z34) (hat _ (getD_in _ hi)) _ 0 (Nat.zero_le _) out ho (by rw [hz i (Nat.le_refl _) hi]; simp) ?_
    rw [hz i (Nat.le_refl _) hi, List.nil_append, List.drop_zero]
    refine Ev.as (ih _ (by rw [List.length_set]; exact ho) ?_) ?_
    · intro j hj hjl
      rw [List.getD_eq_getElem?_getD, List.getElem?_set_ne (by omega), ← List.getD_eq_getElem?_getD]
      exact hz j (by omega) hjl
    · rw [drop_getD z34 hi, List.map_cons, List.take_succ_eq_append_getElem (by rw [List.length_set]; omega), List.take_set_of_le (Nat.le_refl i)]
      simp
theorem implMems_some (as_ : List S34) (of_ : List (List Int)) (F : List S38) (ha : as_.length ≤ 1048576) (hat : ∀ a, a ∈ as_ → a.f2.length ≤ 1048576) (hl : F.length ≤ 1048576) (hFs : ∀ f, f ∈ F → f.f2.length ≤ 1048576) : Ev (fun k => impl_AlphaMems.f k as_ of_ F) (memsB as_ F) := by
  refine Ev.congr (fun k => by unfold impl_AlphaMems.f; exact rfl) ?_
  refine Ev.bind (implGoodFacts_some F (by omega)) ?_
  unfold memsB
  refine Ev.ite (fun c => ?_) (fun c => ?_)
  · rw [if_pos c, Int.toNat_natCast]
    refine Ev.ifT (by omega) (Ev.ifT (by omega) ?_)
    refine Ev.as (implMems_loop F (good_40 F c) hFs as_ ha hat 0 (Nat.zero_le _) _ List.length_replicate ?_) (by simp)
    intro j _ hj
    rw [getD_lt [] (by rw [List.length_replicate]; exact hj)]
    simp
  · rw [if_neg c]; exact Ev.now _
theorem markAlphas : ∀ (xs : List S34) (a : Int), (∀ x, x ∈ xs → x.f2.length ≤ 1048576) → 0 ≤ a → a + (xs.length * 8 + 6 * (xs.map fun x => x.f2.length).sum) ≤ 4611686018427387904 →
    ∃ r, Ev (fun k => laws_markAlphaS.f k xs a) r ∧ a ≤ r.1 ∧ r.1 ≤ a + (xs.length * 8 + 6 * (xs.map fun x => x.f2.length).sum)
  | [], a, _, h0, _ => ⟨(a, []), Ev.now _, Int.le_refl _, by simp⟩
  | x :: xs, a, hl, h0, h1 => by
    rw [List.length_cons, List.map_cons, List.sum_cons] at h1 ⊢
    have hx := hl x List.mem_cons_self
    have w0 : wrap64 (a + 1) = a + 1 := by unfold wrap64; omega
    have w1 : wrap64 (a + 1 + 1) = a + 2 := by unfold wrap64; omega
    have hc := cntAlphaTestS x.f2
    obtain ⟨r, hr, g0, g1⟩ := markAlphas xs (a + 2 + cntL mnAlphaTest x.f2) (fun y hy => hl y (List.mem_cons_of_mem _ hy)) (by omega) (by omega)
    have hm := mark_AlphaTestS x.f2 (a + 2) (by omega) (by omega) (by omega)
    have ht := mark_text a h0 (by omega)
    refine ⟨(r.1, (⟨mtxt a, a + 1, mkL mkAlphaTest mnAlphaTest (a + 2) x.f2⟩ : S34) :: r.2), ?_, by dsimp only; omega, by dsimp only; omega⟩
    refine Ev.congr (fun k => by unfold laws_markAlphaS.f laws_markAlphaS.r; simp only [w0, w1]; exact rfl) ?_
    refine Ev.bind ht ?_
    refine Ev.bind hm ?_
    refine Ev.bind (g := fun k => laws_markAlphaS.r k xs (a + 2 + cntL mnAlphaTest x.f2)) hr ?_
    exact Ev.now _
theorem markFacts : ∀ (xs : List S38) (a : Int), (∀ x, x ∈ xs → x.f2.length ≤ 1048576) → 0 ≤ a → a + (xs.length * 8 + 3 * (xs.map fun x => x.f2.length).sum) ≤ 4611686018427387904 →
    ∃ r, Ev (fun k => laws_markFactS.f k xs a) r ∧ a ≤ r.1 ∧ r.1 ≤ a + (xs.length * 8 + 3 * (xs.map fun x => x.f2.length).sum)
  | [], a, _, h0, _ => ⟨(a, []), Ev.now _, Int.le_refl _, by simp⟩
  | x :: xs, a, hl, h0, h1 => by
    rw [List.length_cons, List.map_cons, List.sum_cons] at h1 ⊢
    have hx := hl x List.mem_cons_self
    have w0 : wrap64 (a + 1) = a + 1 := by unfold wrap64; omega
    have w1 : wrap64 (a + 1 + 1) = a + 2 := by unfold wrap64; omega
    have hc := cntValueS x.f2
    obtain ⟨r, hr, g0, g1⟩ := markFacts xs (a + 2 + cntL mnValue x.f2) (fun y hy => hl y (List.mem_cons_of_mem _ hy)) (by omega) (by omega)
    have hm := mark_ValueS x.f2 (a + 2) (by omega) (by omega) (by omega)
    have ht := mark_text (a + 1) (by omega) (by omega)
    refine ⟨(r.1, (⟨a, mtxt (a + 1), mkL mkValue mnValue (a + 2) x.f2⟩ : S38) :: r.2), ?_, by dsimp only; omega, by dsimp only; omega⟩
    refine Ev.congr (fun k => by unfold laws_markFactS.f laws_markFactS.r; simp only [w0, w1]; exact rfl) ?_
    refine Ev.bind ht ?_
    refine Ev.bind hm ?_
    refine Ev.bind (g := fun k => laws_markFactS.r k xs (a + 2 + cntL mnValue x.f2)) hr ?_
    exact Ev.now _
def FnExactAlphaMems.Pure : Prop := ∀ (n : S75) (l : List S28), okNet n → okFactS l → ∃ k, laws_FnExactAlphaMems.f k n.f0 n.f1 l = some true
theorem len_Alpha (y : S25) : (cvAlpha y).f2.length ≤ tzAlpha y := by
  show (y.f2.map cvAlphaTest).length ≤ _
  rw [List.length_map]
  unfold tzAlpha tzAlphaTestS
  omega
theorem len_Fact (y : S28) : (cvFact y).f2.length ≤ tzFact y := by
  show (y.f2.map cvValue).length ≤ _
  rw [List.length_map]
  unfold tzFact tzValueS
  omega
theorem sum_tests (xs : List S25) (h : tzAlphaS xs ≤ 1048576) : ((xs.map cvAlpha).map fun x => x.f2.length).sum ≤ 1048576 ∧ ∀ x, x ∈ xs.map cvAlpha → x.f2.length ≤ 1048576 := by
  unfold tzAlphaS at h
  have key : ∀ ys : List S25, ((ys.map cvAlpha).map fun x => x.f2.length).sum ≤ (ys.map tzAlpha).sum := by
    intro ys
    induction ys with
    | nil => exact Nat.le_refl _
    | cons y ys ih =>
      rw [List.map_cons, List.map_cons, List.sum_cons, List.map_cons, List.sum_cons]
      have := len_Alpha y
      omega
  refine ⟨by have := key xs; omega, fun x hx => ?_⟩
  obtain ⟨y, hy, rfl⟩ := List.mem_map.1 hx
  have := sum_le_of_mem tzAlpha xs y hy
  have := len_Alpha y
  omega
theorem sum_slots (xs : List S28) (h : tzFactS xs ≤ 1048576) : ((xs.map cvFact).map fun x => x.f2.length).sum ≤ 1048576 ∧ ∀ x, x ∈ xs.map cvFact → x.f2.length ≤ 1048576 := by
  unfold tzFactS at h
  have key : ∀ ys : List S28, ((ys.map cvFact).map fun x => x.f2.length).sum ≤ (ys.map tzFact).sum := by
    intro ys
    induction ys with
    | nil => exact Nat.le_refl _
    | cons y ys ih =>
      rw [List.map_cons, List.map_cons, List.sum_cons, List.map_cons, List.sum_cons]
      have := len_Fact y
      omega
  refine ⟨by have := key xs; omega, fun x hx => ?_⟩
  obtain ⟨y, hy, rfl⟩ := List.mem_map.1 hx
  have := sum_le_of_mem tzFact xs y hy
  have := len_Fact y
  omega
theorem FnExactAlphaMems : FnExactAlphaMems.Pure := by
  intro n l hn hl
  have suf : (∃ K, ∀ k, K ≤ k → FnExactAlphaMems.Facts k n.f0 n.f1 l) → ∃ k, laws_FnExactAlphaMems.f k n.f0 n.f1 l = some true := by
    rintro ⟨K, hK⟩
    exact ⟨K, by unfold laws_FnExactAlphaMems.f; rw [if_pos (hK K (Nat.le_refl _))]⟩
  apply suf
  clear suf
  obtain ⟨K1, h1⟩ := sz_Net n hn 1048576 (by omega) (by omega)
  by_cases c1 : (1048576 : Int) < tzNet n
  · rw [szv_neg c1] at h1
    exact ⟨K1, fun k hk => ⟨-1, h1 k hk, .inl (by omega)⟩⟩
  have d1 : (tzNet n : Int) ≤ 1048576 := by omega
  rw [szv_pos d1] at h1
  obtain ⟨K2, h2⟩ := sz_FactS l hl (1048576 - (tzNet n : Int)) (by omega) (by omega)
  by_cases c2 : (1048576 : Int) - tzNet n < tzFactS l
  · rw [szv_neg c2] at h2
    exact ⟨K1 + K2, fun k hk => ⟨_, h1 k (by omega), .inr ⟨by omega, -1, h2 k (by omega), .inl (by omega)⟩⟩⟩
  have d2 : (tzFactS l : Int) ≤ 1048576 - tzNet n := by omega
  rw [szv_pos d2] at h2
  have dA : tzAlphaS n.f0 ≤ 1048576 := by unfold tzNet at d1; omega
  obtain ⟨sA, mA⟩ := sum_tests n.f0 dA
  obtain ⟨sF, mF⟩ := sum_slots l (by omega)
  have lA : (n.f0.map cvAlpha).length ≤ 1048576 := by rw [List.length_map]; unfold tzAlphaS at dA; omega
  have lF : (l.map cvFact).length ≤ 1048576 := by rw [List.length_map]; unfold tzFactS at d2; omega
  have hG : ∀ x, x ∈ memsB (n.f0.map cvAlpha) (l.map cvFact) → x.length ≤ 1048576 := by
    intro x hx
    unfold memsB at hx
    split at hx
    · obtain ⟨a, _, rfl⟩ := List.mem_map.1 hx
      have := memB_length (l.map cvFact) a
      omega
    · cases hx
  have lG : (memsB (n.f0.map cvAlpha) (l.map cvFact)).length ≤ 1048576 := by
    unfold memsB
    split
    · rw [List.length_map]; exact lA
    · simp
  have sG : cntL mnII (memsB (n.f0.map cvAlpha) (l.map cvFact)) ≤ 1099511627776 := by
    have key : ∀ ys : List (List Int), (∀ x, x ∈ ys → x.length ≤ 1048576) → cntL mnII ys ≤ ys.length * 1048576 := by
      intro ys
      induction ys with
      | nil => intro _; exact Nat.le_refl _
      | cons y ys ih =>
        intro h
        rw [cntL_cons, List.length_cons]
        have h1 := ih (fun z hz => h z (List.mem_cons_of_mem _ hz))
        have h2 := h y List.mem_cons_self
        have h3 : mnII y = y.length := cntI y
        omega
    have := key _ hG
    omega
  obtain ⟨K3, h3⟩ := to_Net n (by omega)
  obtain ⟨K4, h4⟩ := to_FactS l (by omega)
  obtain ⟨K5, h5⟩ := specMems_some (n.f0.map cvAlpha) n.f1 (l.map cvFact) lA mA
  obtain ⟨K6, h6⟩ := implMems_some (n.f0.map cvAlpha) n.f1 (l.map cvFact) lA mA lF mF
  obtain ⟨K7, h7⟩ := eq_IntSS (memsB (n.f0.map cvAlpha) (l.map cvFact)) ⟨by omega, fun x hx => by have := hG x hx; omega⟩
  obtain ⟨K8, h8⟩ := eq_Net (cvNet n) (le_cvNet n (by omega))
  obtain ⟨K9, h9⟩ := eq_FactS (l.map cvFact) (le_cvFactS l (by omega))
  obtain ⟨rA, ⟨KA, hA⟩, gA0, gA1⟩ := markAlphas (n.f0.map cvAlpha) 1 mA (by omega) (by omega)
  have hof : cntL mnII n.f1 ≤ 1048576 ∧ (∀ x, x ∈ n.f1 → x.length ≤ 9223372036854775807) := by
    have : tzIntSS n.f1 ≤ 1048576 := by unfold tzNet at d1; omega
    unfold tzIntSS at this
    refine ⟨?_, fun x hx => by have := sum_le_of_mem List.length n.f1 x hx; omega⟩
    have e : cntL mnII n.f1 = (n.f1.map List.length).sum := by
      unfold cntL
      congr 1
      apply List.map_congr_left
      intro x _
      exact cntI x
    omega
  obtain ⟨KB, hB⟩ := markIntss n.f1 rA.1 hof.2 (by omega) (by omega)
  obtain ⟨rF, ⟨KF, hF⟩, gF0, gF1⟩ := markFacts (l.map cvFact) (rA.1 + cntL mnII n.f1) mF (by omega) (by omega)
  obtain ⟨KG, hGm⟩ := markIntss (memsB (n.f0.map cvAlpha) (l.map cvFact)) 1 (fun x hx => by have := hG x hx; omega) (by omega) (by omega)
  obtain ⟨KH, hH⟩ := heldIntss (memsB (n.f0.map cvAlpha) (l.map cvFact)) 1 (by omega) (fun x hx => by have := hG x hx; omega) (by omega) (by omega)
  dsimp only [cvNet] at h1 h2 h3 h4 h5 h6 h7 h8 h9 hA hB hF hGm hH
  refine ⟨K1 + K2 + K3 + K4 + K5 + K6 + K7 + K8 + K9 + KA + KB + KF + KG + KH, fun k hk => ⟨_, h1 k (by omega), .inr ⟨by omega, _, h2 k (by omega), .inr ⟨by omega, n.f0.map cvAlpha, n.f1, l.map cvFact, memsB (n.f0.map cvAlpha) (l.map cvFact), (rA.1 + cntL mnII n.f1, rA.2, mkL mkII mnII rA.1 n.f1), rF, (1 + cntL mnII (memsB (n.f0.map cvAlpha) (l.map cvFact)), mkL mkII mnII 1 (memsB (n.f0.map cvAlpha) (l.map cvFact))),
    h3 k (by omega), h4 k (by omega), h5 k (by omega), h6 k (by omega), h7 k (by omega), h8 k (by omega), h9 k (by omega), ?_, hF k (by omega), by omega, hGm k (by omega), hH k (by omega), by dsimp only; omega⟩⟩⟩⟩
  unfold laws_markNet.f
  rw [hA k (by omega)]
  simp only [Option.bind_some]
  rw [hB k (by omega)]
  rfl
end Go.Proofs.Ytoncacdehhmpaaa.Pure
namespace Go.Proofs.YtoncacdehhmpaaaX
open Go.RowKit Go.Proofs.YtoncacdehhmpaaaW.PrintWords
set_option linter.unusedVariables false
set_option linter.unusedSimpArgs false
def Rdb {α : Type} (P : Program) (W : World) (T : TypeId) (d : Kd α) (ok : α → Prop) : Prop :=
  ∀ (H : Type) (enc : TypeId × Value → H) (sp : Nat → Bool) (fuel : Nat) (cs : List Value) (r : DataW H × List MemPlace), DataW.trod enc P W 0 sp true fuel T cs = some r → ∃ x, d.K W x cs ∧ ok x
section
variable {P : Program} {W : World} {T : TypeId}
theorem rdb_string (hu : P.underlying T = some .string) : Rdb P W T Kd.string (fun s => s.size ≤ 9223372036854775807) := by
  intro H enc sp fuel cs r h
  obtain ⟨s, rfl, _, hs⟩ := DataW.trod_string hu h
  exact ⟨s, rfl, by simpa [maxLen] using hs⟩
theorem list_choice {α : Type} (Q : Nat → α → Prop) : ∀ n, (∀ i, i < n → ∃ x, Q i x) → ∃ xs : List α, xs.length = n ∧ ∀ i x, xs[i]? = some x → Q i x
  | 0, _ => ⟨[], rfl, fun i x h => by simp at h⟩
  | n + 1, h => by
    obtain ⟨xs, hl, hx⟩ := list_choice Q n (fun i hi => h i (by omega))
    obtain ⟨y, hy⟩ := h n (by omega)
    refine ⟨xs ++ [y], by simp [hl], fun i x hi => ?_⟩
    rcases Nat.lt_or_ge i xs.length with c | c
    · rw [List.getElem?_append_left c] at hi
      exact hx i x hi
    · rw [List.getElem?_append_right c] at hi
      have e : i - xs.length = 0 := by
        rcases Nat.eq_zero_or_pos (i - xs.length) with e | e
        · exact e
        · rw [List.getElem?_eq_none (by simp; omega)] at hi; cases hi
      rw [e] at hi
      have : y = x := by simpa using hi
      rw [← this, show i = n by omega]
      exact hy
theorem add_plus (a : Addr) (m n : Nat) : (a.add m).add n = a.add (m + n) := by
  unfold Addr.add
  by_cases h1 : m = 0
  · subst h1; simp
  · by_cases h2 : n = 0
    · subst h2; simp
    · simp [h1, h2]; omega
theorem rdb_slice {α : Type} {d : Kd α} {ok : α → Prop} {e : TypeId} (hu : P.underlying T = some (.slice e)) (hc : P.cellsOf e = d.sz) (he : Rdb P W e d ok) :
    Rdb P W T (Kd.slice e d) (fun xs => xs.length ≤ 9223372036854775807 ∧ ∀ x, x ∈ xs → ok x) := by
  intro H enc sp fuel cs r h
  rcases DataW.trod_slice hu h with ⟨rfl, _⟩ | ⟨a, len, cap, elems, rest, n, _, rfl, _, _, hl, hcap, hel, hrd, _, _⟩
  · exact ⟨[], ⟨none, 0, rfl, Nat.le_refl _, rfl, by simp, fun h => absurd h (by simp)⟩, by simp, fun x hx => absurd hx (by simp)⟩
  · have hex : ∀ i, i < len → ∃ x, ∃ c, c.length = d.sz ∧ d.K W x c ∧ (∀ j u, c[j]? = some u → W.cell? (a.add (i * d.sz + j)) = some u) ∧ ok x := by
      intro i hi
      have h1 := hrd i hi
      rw [List.getElem?_eq_getElem (by omega)] at h1
      obtain ⟨c, h2, h3⟩ := Option.bind_eq_some_iff.1 h1
      obtain ⟨x, hx, hok⟩ := he H enc sp n c _ h3
      obtain ⟨_, h5, h6⟩ := World.cells?_some h2
      refine ⟨x, c, d.K_len hx, hx, fun j u hj => ?_, hok⟩
      have hlt : j < P.cellsOf e := by
        have := (List.getElem?_eq_some_iff.1 hj).1
        omega
      have h7 := h6 j hlt
      rw [hj, hc, add_plus] at h7
      exact h7
    obtain ⟨xs, hxl, hxs⟩ := list_choice _ len hex
    refine ⟨xs, ⟨some a, cap, by rw [hxl], by omega, rfl, by simp [maxLen] at hcap; omega, fun _ => ⟨a, rfl, fun j p hj => ?_⟩⟩, by simp [maxLen] at hcap; omega, fun x hx => ?_⟩
    · obtain ⟨c, h1, h2, h3, _⟩ := hxs j p hj
      exact ⟨c, h1, h2, h3⟩
    · obtain ⟨i, hi, e⟩ := List.getElem_of_mem hx
      obtain ⟨c, _, _, _, h4⟩ := hxs i x (by rw [List.getElem?_eq_getElem hi, e])
      exact h4
theorem rdb_i64 (hu : P.underlying T = some (.int .i64)) : Rdb P W T (Kd.int .i64) okInt := by
  intro H enc sp fuel cs r h
  obtain ⟨n, rfl, _, hw⟩ := DataW.trod_int hu h
  refine ⟨n, rfl, ?_⟩
  simp only [Lit.wf, Bool.and_eq_true, decide_eq_true_eq] at hw
  exact hw
theorem len_s {α : Type} {cs : List α} {n : Nat} (h : cs.length = n + 1) : ∃ a r, cs = a :: r ∧ r.length = n := by
  cases cs with
  | nil => cases h
  | cons a r => exact ⟨a, r, rfl, by simpa using h⟩
theorem len_z {α : Type} {cs : List α} (h : cs.length = 0) : cs = [] := List.length_eq_zero_iff.1 h
theorem okWide_st {w : World} {r : Reach} {base : Nat} {v : Value} {fs : Array Field} (ht : P.underlying T = some (.struct fs)) (h : Value.okWide P w r base T v) : ∃ cs, v = .agg cs := by
  simp only [Value.okWide, ht] at h
  obtain ⟨cs, hcs, _⟩ := h
  exact ⟨cs, hcs⟩
end
end Go.Proofs.YtoncacdehhmpaaaX
