/- The row of the law FnExactAlphaPass: for every input the call returns true, and each argument reads behind it as it read before; no condition of ours. -/
import Derived.ChangeArms
import Derived.DataReads
import Derived.WideShapes
import Derived.Test.YtoncacdehhmpaaaQAp6
namespace Go.Proofs.YtoncacdehhmpaaaX
open Go.RowKit Go.Proofs.YtoncacdehhmpaaaW.PrintWords
set_option linter.unusedVariables false
set_option linter.unusedSimpArgs false
def okInt (x : Int) : Prop := -9223372036854775808 ≤ x ∧ x ≤ 9223372036854775807
theorem wrap_succ {i n : Nat} (h : i < n) (hn : n ≤ 9223372036854775807) : wrap64 ((i : Int) + 1) = ((i + 1 : Nat) : Int) := by
  unfold wrap64
  omega
theorem up_ind {n : Nat} {P : Nat → Prop} (he : P n) (hs : ∀ i, i < n → P (i + 1) → P i) : ∀ i, i ≤ n → P i := by
  intro i hi
  obtain ⟨d, hd⟩ : ∃ d, n = i + d := ⟨n - i, by omega⟩
  induction d generalizing i with
  | zero => rw [show i = n by omega]; exact he
  | succ d ih => exact hs i (by omega) (ih (i + 1) (by omega) (by omega))
theorem getD_lt {α : Type} {xs : List α} {i : Nat} (z : α) (h : i < xs.length) : xs.getD i z = xs[i] := by
  rw [List.getD_eq_getElem?_getD, List.getElem?_eq_getElem h]
  rfl
theorem drop_getD {α : Type} {xs : List α} {i : Nat} (z : α) (h : i < xs.length) : xs.drop i = xs.getD i z :: xs.drop (i + 1) := by
  rw [getD_lt z h]
  exact List.drop_eq_getElem_cons h
theorem getD_in {α : Type} {xs : List α} {k : Nat} (z : α) (h : k < xs.length) : xs.getD k z ∈ xs := by
  rw [getD_lt z h]
  exact List.getElem_mem h
def szv (t : Nat) (left : Int) : Int := if (t : Int) ≤ left then left - t else -1
theorem szv_pos {t : Nat} {left : Int} (h : (t : Int) ≤ left) : szv t left = left - t := if_pos h
theorem szv_neg {t : Nat} {left : Int} (h : left < t) : szv t left = -1 := if_neg (by omega)
theorem wrap_left {left : Int} {a : Nat} (h0 : 0 ≤ left) (h1 : left ≤ 1048576) (ha : a ≤ 9223372036854775807) : wrap64 (left - (a : Int)) = left - a := by
  unfold wrap64
  omega
theorem sz_loop {α : Type} (xs : List α) (z : α) (tz : α → Nat) (L : Nat → Int → Int → Option Int)
    (hstep : ∀ (i : Nat) (left r : Int), i < xs.length → 0 ≤ left → left ≤ 1048576 → (left < tz (xs.getD i z) → r = -1) →
      ((tz (xs.getD i z) : Int) ≤ left → Ev (fun k => L k (left - tz (xs.getD i z)) ((i + 1 : Nat) : Int)) r) → Ev (fun k => L k left (i : Int)) r)
    (hend : ∀ left, Ev (fun k => L k left (xs.length : Int)) left) :
    ∀ left, 0 ≤ left → left ≤ 1048576 → Ev (fun k => L k left 0) (szv (xs.map tz).sum left) := by
  have key : ∀ i, i ≤ xs.length → ∀ left, 0 ≤ left → left ≤ 1048576 → Ev (fun k => L k left (i : Int)) (szv ((xs.drop i).map tz).sum left) := by
    refine up_ind ?_ ?_
    · intro left h0 h1
      rw [List.drop_length, List.map_nil, List.sum_nil, szv_pos (by omega)]
      rw [show left - ((0 : Nat) : Int) = left by omega]
      exact hend left
    · intro i hi ih left h0 h1
      rw [drop_getD z hi, List.map_cons, List.sum_cons]
      refine hstep i left _ hi h0 h1 (fun h => szv_neg (by omega)) (fun h => ?_)
      have e : szv (tz (xs.getD i z) + ((xs.drop (i + 1)).map tz).sum) left = szv ((xs.drop (i + 1)).map tz).sum (left - tz (xs.getD i z)) := by
        unfold szv
        split <;> split <;> omega
      rw [e]
      exact ih _ (by omega) (by omega)
  intro left h0 h1
  have := key 0 (Nat.zero_le _) left h0 h1
  rw [List.drop_zero] at this
  exact this
theorem to_loop {α β : Type} (xs : List α) (z : α) (f : α → β) (L : Nat → List β → Int → Option (List β))
    (hstep : ∀ (i : Nat) (out r : List β), i < xs.length → out.length = xs.length → Ev (fun k => L k (out.set i (f (xs.getD i z))) ((i + 1 : Nat) : Int)) r → Ev (fun k => L k out (i : Int)) r)
    (hend : ∀ out, out.length = xs.length → Ev (fun k => L k out (xs.length : Int)) out) : ∀ out, out.length = xs.length → Ev (fun k => L k out 0) (xs.map f) := by
  have key : ∀ i, i ≤ xs.length → ∀ out : List β, out.length = xs.length → Ev (fun k => L k out (i : Int)) (out.take i ++ (xs.drop i).map f) := by
    refine up_ind ?_ ?_
    · intro out ho
      rw [List.drop_length, List.map_nil, List.append_nil, ← ho, List.take_length, ho]
      exact hend out ho
    · intro i hi ih out ho
      refine hstep i out _ hi ho ?_
      have := ih (out.set i (f (xs.getD i z))) (by simpa using ho)
      have e : (out.set i (f (xs.getD i z))).take (i + 1) ++ (xs.drop (i + 1)).map f = out.take i ++ (xs.drop i).map f := by
        rw [drop_getD z hi, List.map_cons, List.take_succ_eq_append_getElem (by simpa [ho] using hi), List.take_set_of_le (Nat.le_refl i)]
        simp
      rw [e] at this
      exact this
  intro out ho
  have := key 0 (Nat.zero_le _) out ho
  simpa using this
theorem eq_loop (n : Nat) (L : Nat → Int → Option Bool) (hstep : ∀ i : Nat, i < n → Ev (fun k => L k ((i + 1 : Nat) : Int)) true → Ev (fun k => L k (i : Int)) true)
    (hend : Ev (fun k => L k (n : Int)) true) : Ev (fun k => L k 0) true := by
  have := up_ind (P := fun i => Ev (fun k => L k (i : Int)) true) hend (fun i hi h => hstep i hi h) 0 (Nat.zero_le _)
  exact this
end Go.Proofs.YtoncacdehhmpaaaX
namespace Go.Proofs.Ytoncacdehhmpaaa.Pure
open Go.RowKit Go.Proofs.Ytoncacdehhmpaaa.P Go.Proofs.YtoncacdehhmpaaaW.PrintWords Go.Proofs.YtoncacdehhmpaaaW.PrintLast Go.Proofs.YtoncacdehhmpaaaX
set_option linter.unusedVariables false
set_option linter.unusedSimpArgs false
def cvValue (x : S158) : S104 := ⟨x.f0, x.f1, x.f2⟩
def tzValue (x : S158) : Nat := x.f2.size
def okValue (x : S158) : Prop := okInt x.f0 ∧ okInt x.f1 ∧ x.f2.size ≤ 9223372036854775807
def tzValueS (xs : List S158) : Nat := xs.length + (xs.map tzValue).sum
def okValueS (xs : List S158) : Prop := xs.length ≤ 9223372036854775807 ∧ ∀ x, x ∈ xs → okValue x
theorem sz_Value (x : S158) (hok : okValue x) (left : Int) (h0 : 0 ≤ left) (h1 : left ≤ 1048576) : laws_szValue.f x.f0 x.f1 x.f2 left = some (szv (tzValue x) left) := by
  obtain ⟨o0, o1, o2⟩ := hok
  have e2 : wrap64 (left - (x.f2.size : Int)) = left - (x.f2.size : Int) := wrap_left (by omega) (by omega) o2
  by_cases c2 : left - (x.f2.size : Int) < 0
  · have hz : szv (tzValue x) left = -1 := szv_neg (by unfold tzValue; omega)
    rw [hz]
    unfold laws_szValue.f
    rw [e2, if_pos c2]
    try rfl
  · skip
    have hz : szv (tzValue x) left = (left - (x.f2.size : Int)) := by rw [szv_pos (by unfold tzValue; omega)]; unfold tzValue; omega
    rw [hz]
    unfold laws_szValue.f
    rw [e2, if_neg c2]
    try rfl
theorem to_Value (x : S158) : laws_toValue.f x.f0 x.f1 x.f2 = some (x.f0, x.f1, x.f2) := rfl
theorem eq_Value (x : S104) : laws_eqValue.f x.f0 x.f1 x.f2 x.f0 x.f1 x.f2 = some true := by
  unfold laws_eqValue.f
  rw [if_pos (by trivial)]
  rw [if_pos (by trivial)]
  rw [if_pos (by trivial)]
theorem sz_ValueS (xs : List S158) (hok : okValueS xs) (left : Int) (h0 : 0 ≤ left) (h1 : left ≤ 1048576) : Ev (fun k => laws_szValueS.f k xs left) (szv (tzValueS xs) left) := by
  obtain ⟨ol, oe⟩ := hok
  have e : wrap64 (left - (xs.length : Int)) = left - (xs.length : Int) := wrap_left h0 h1 ol
  by_cases c : left - (xs.length : Int) < 0
  · have hz : szv (tzValueS xs) left = -1 := szv_neg (by unfold tzValueS; omega)
    rw [hz]
    refine ⟨0, fun k _ => ?_⟩
    dsimp only
    unfold laws_szValueS.f
    rw [e, if_pos c]
  · have hz : szv (tzValueS xs) left = szv (xs.map tzValue).sum (left - (xs.length : Int)) := by unfold szv tzValueS; split <;> split <;> omega
    rw [hz]
    have key := sz_loop xs z158 tzValue (fun k l i => laws_szValueS.l0 k xs l i) ?_ ?_ (left - (xs.length : Int)) (by omega) (by omega)
    · obtain ⟨K, hK⟩ := key
      refine ⟨K, fun k hk => ?_⟩
      dsimp only
      unfold laws_szValueS.f
      rw [e, if_neg c]
      exact hK k hk
    · intro i l r hi g0 g1 hneg hpos
      have hrd : rd_T158 xs (i : Int) = xs.getD i z158 := by simp [rd_T158]
      have s := sz_Value (xs.getD i z158) (oe _ (getD_in _ hi)) l g0 g1
      by_cases c2 : l < (tzValue (xs.getD i z158) : Int)
      · rw [hneg c2]
        rw [szv_neg c2] at s
        refine ⟨0 + 1, fun k hk => ?_⟩
        dsimp only
        obtain ⟨m, rfl⟩ : ∃ m, k = m + 1 := ⟨k - 1, by omega⟩
        simp only [laws_szValueS.l0]
        rw [if_pos (by omega), if_pos (by omega), hrd, s]
        rfl
      · have d2 : (tzValue (xs.getD i z158) : Int) ≤ l := by omega
        obtain ⟨K2, h2⟩ := hpos d2
        rw [szv_pos d2] at s
        refine ⟨K2 + 1, fun k hk => ?_⟩
        dsimp only
        obtain ⟨m, rfl⟩ : ∃ m, k = m + 1 := ⟨k - 1, by omega⟩
        simp only [laws_szValueS.l0]
        rw [if_pos (by omega), if_pos (by omega), hrd, s]
        simp only [Option.bind_some]
        rw [if_neg (by omega), wrap_succ hi ol]
        exact h2 m (by omega)
    · intro l
      refine ⟨1, fun k hk => ?_⟩
      dsimp only
      obtain ⟨m, rfl⟩ : ∃ m, k = m + 1 := ⟨k - 1, by omega⟩
      simp only [laws_szValueS.l0]
      rw [if_neg (by omega)]
theorem to_ValueS (xs : List S158) (hs : tzValueS xs ≤ 1048576) : Ev (fun k => laws_toValueS.f k xs) (xs.map cvValue) := by
  unfold tzValueS at hs
  have key := to_loop xs z158 cvValue (fun k out i => laws_toValueS.l0 k xs out i) ?_ ?_ (List.replicate xs.length z104) List.length_replicate
  · obtain ⟨K, hK⟩ := key
    refine ⟨K, fun k hk => ?_⟩
    dsimp only
    unfold laws_toValueS.f
    rw [if_pos (by omega), if_pos (by rw [Int.toNat_natCast]; omega), Int.toNat_natCast]
    exact hK k hk
  · intro i out r hi ho h
    obtain ⟨K, hK⟩ := h
    have hrd : rd_T158 xs (i : Int) = xs.getD i z158 := by simp [rd_T158]
    have h1 := to_Value (xs.getD i z158)
    refine ⟨K + 1, fun k hk => ?_⟩
    dsimp only
    obtain ⟨m, rfl⟩ : ∃ m, k = m + 1 := ⟨k - 1, by omega⟩
    simp only [laws_toValueS.l0]
    rw [if_pos (by omega), if_pos (by omega), hrd, h1]
    simp only [Option.bind_some]
    rw [if_pos (by omega), wrap_succ hi (by omega), Int.toNat_natCast]
    exact hK m (by omega)
  · intro out ho
    refine ⟨1, fun k hk => ?_⟩
    dsimp only
    obtain ⟨m, rfl⟩ : ∃ m, k = m + 1 := ⟨k - 1, by omega⟩
    simp only [laws_toValueS.l0]
    rw [if_neg (by omega)]
theorem eq_ValueS (xs : List S104) (hl : xs.length ≤ 9223372036854775807) : Ev (fun k => laws_eqValueS.f k xs xs) true := by
  have key := eq_loop xs.length (fun k i => laws_eqValueS.l0 k xs xs i) ?_ ?_
  · obtain ⟨K, hK⟩ := key
    refine ⟨K, fun k hk => ?_⟩
    dsimp only
    unfold laws_eqValueS.f
    rw [if_pos (by trivial)]
    exact hK k hk
  · intro i hi h
    obtain ⟨K, hK⟩ := h
    have hrd : rd_T104 xs (i : Int) = xs.getD i z104 := by simp [rd_T104]
    have h1 := eq_Value (xs.getD i z104)
    refine ⟨K + 1, fun k hk => ?_⟩
    dsimp only
    obtain ⟨m, rfl⟩ : ∃ m, k = m + 1 := ⟨k - 1, by omega⟩
    simp only [laws_eqValueS.l0]
    rw [if_pos (by omega), if_pos (by omega), if_pos (by omega), hrd, h1]
    simp only [Option.bind_some]
    rw [if_pos (by trivial), wrap_succ hi hl]
    exact hK m (by omega)
  · refine ⟨1, fun k hk => ?_⟩
    dsimp only
    obtain ⟨m, rfl⟩ : ∃ m, k = m + 1 := ⟨k - 1, by omega⟩
    simp only [laws_eqValueS.l0]
    rw [if_neg (by omega)]
def cvAlphaTest (x : S160) : S106 := ⟨x.f0, x.f1, x.f2, (cvValue x.f3)⟩
def tzAlphaTest (x : S160) : Nat := tzValue x.f3
def okAlphaTest (x : S160) : Prop := okInt x.f0 ∧ okInt x.f1 ∧ okInt x.f2 ∧ okValue x.f3
def tzAlphaTestS (xs : List S160) : Nat := xs.length + (xs.map tzAlphaTest).sum
def okAlphaTestS (xs : List S160) : Prop := xs.length ≤ 9223372036854775807 ∧ ∀ x, x ∈ xs → okAlphaTest x
theorem sz_AlphaTest (x : S160) (hok : okAlphaTest x) (left : Int) (h0 : 0 ≤ left) (h1 : left ≤ 1048576) : laws_szAlphaTest.f x.f0 x.f1 x.f2 x.f3.f0 x.f3.f1 x.f3.f2 left = some (szv (tzAlphaTest x) left) := by
  obtain ⟨o0, o1, o2, o3⟩ := hok
  have s3 := sz_Value x.f3 o3 left (by omega) (by omega)
  by_cases c3 : left < ((tzValue x.f3 : Nat) : Int)
  · have hz : szv (tzAlphaTest x) left = -1 := szv_neg (by unfold tzAlphaTest; omega)
    rw [hz]
    rw [szv_neg c3] at s3
    unfold laws_szAlphaTest.f
    rw [s3]
    rfl
  · have d3 : ((tzValue x.f3 : Nat) : Int) ≤ left := by omega
    rw [szv_pos d3] at s3
    have hz : szv (tzAlphaTest x) left = (left - ((tzValue x.f3 : Nat) : Int)) := by rw [szv_pos (by unfold tzAlphaTest; omega)]; unfold tzAlphaTest; omega
    rw [hz]
    unfold laws_szAlphaTest.f
    rw [s3]
    simp only [Option.bind_some]
    rw [if_neg (by omega)]
    try rfl
theorem to_AlphaTest (x : S160) : laws_toAlphaTest.f x.f0 x.f1 x.f2 x.f3.f0 x.f3.f1 x.f3.f2 = some (x.f0, x.f1, x.f2, x.f3.f0, x.f3.f1, x.f3.f2) := rfl
theorem eq_AlphaTest (x : S106) : laws_eqAlphaTest.f x.f0 x.f1 x.f2 x.f3.f0 x.f3.f1 x.f3.f2 x.f0 x.f1 x.f2 x.f3.f0 x.f3.f1 x.f3.f2 = some true := by
  unfold laws_eqAlphaTest.f
  rw [if_pos (by trivial)]
  rw [if_pos (by trivial)]
  rw [if_pos (by trivial)]
  rw [eq_Value x.f3]
  simp only [Option.bind_some]
  rw [if_pos (by trivial)]
theorem sz_AlphaTestS (xs : List S160) (hok : okAlphaTestS xs) (left : Int) (h0 : 0 ≤ left) (h1 : left ≤ 1048576) : Ev (fun k => laws_szAlphaTestS.f k xs left) (szv (tzAlphaTestS xs) left) := by
  obtain ⟨ol, oe⟩ := hok
  have e : wrap64 (left - (xs.length : Int)) = left - (xs.length : Int) := wrap_left h0 h1 ol
  by_cases c : left - (xs.length : Int) < 0
  · have hz : szv (tzAlphaTestS xs) left = -1 := szv_neg (by unfold tzAlphaTestS; omega)
    rw [hz]
    refine ⟨0, fun k _ => ?_⟩
    dsimp only
    unfold laws_szAlphaTestS.f
    rw [e, if_pos c]
  · have hz : szv (tzAlphaTestS xs) left = szv (xs.map tzAlphaTest).sum (left - (xs.length : Int)) := by unfold szv tzAlphaTestS; split <;> split <;> omega
    rw [hz]
    have key := sz_loop xs z160 tzAlphaTest (fun k l i => laws_szAlphaTestS.l0 k xs l i) ?_ ?_ (left - (xs.length : Int)) (by omega) (by omega)
    · obtain ⟨K, hK⟩ := key
      refine ⟨K, fun k hk => ?_⟩
      dsimp only
      unfold laws_szAlphaTestS.f
      rw [e, if_neg c]
      exact hK k hk
    · intro i l r hi g0 g1 hneg hpos
      have hrd : rd_T160 xs (i : Int) = xs.getD i z160 := by simp [rd_T160]
      have s := sz_AlphaTest (xs.getD i z160) (oe _ (getD_in _ hi)) l g0 g1
      by_cases c2 : l < (tzAlphaTest (xs.getD i z160) : Int)
      · rw [hneg c2]
        rw [szv_neg c2] at s
        refine ⟨0 + 1, fun k hk => ?_⟩
        dsimp only
        obtain ⟨m, rfl⟩ : ∃ m, k = m + 1 := ⟨k - 1, by omega⟩
        simp only [laws_szAlphaTestS.l0]
        rw [if_pos (by omega), if_pos (by omega), hrd, s]
        rfl
      · have d2 : (tzAlphaTest (xs.getD i z160) : Int) ≤ l := by omega
        obtain ⟨K2, h2⟩ := hpos d2
        rw [szv_pos d2] at s
        refine ⟨K2 + 1, fun k hk => ?_⟩
        dsimp only
        obtain ⟨m, rfl⟩ : ∃ m, k = m + 1 := ⟨k - 1, by omega⟩
        simp only [laws_szAlphaTestS.l0]
        rw [if_pos (by omega), if_pos (by omega), hrd, s]
        simp only [Option.bind_some]
        rw [if_neg (by omega), wrap_succ hi ol]
        exact h2 m (by omega)
    · intro l
      refine ⟨1, fun k hk => ?_⟩
      dsimp only
      obtain ⟨m, rfl⟩ : ∃ m, k = m + 1 := ⟨k - 1, by omega⟩
      simp only [laws_szAlphaTestS.l0]
      rw [if_neg (by omega)]
theorem to_AlphaTestS (xs : List S160) (hs : tzAlphaTestS xs ≤ 1048576) : Ev (fun k => laws_toAlphaTestS.f k xs) (xs.map cvAlphaTest) := by
  unfold tzAlphaTestS at hs
  have key := to_loop xs z160 cvAlphaTest (fun k out i => laws_toAlphaTestS.l0 k xs out i) ?_ ?_ (List.replicate xs.length z106) List.length_replicate
  · obtain ⟨K, hK⟩ := key
    refine ⟨K, fun k hk => ?_⟩
    dsimp only
    unfold laws_toAlphaTestS.f
    rw [if_pos (by omega), if_pos (by rw [Int.toNat_natCast]; omega), Int.toNat_natCast]
    exact hK k hk
  · intro i out r hi ho h
    obtain ⟨K, hK⟩ := h
    have hrd : rd_T160 xs (i : Int) = xs.getD i z160 := by simp [rd_T160]
    have h1 := to_AlphaTest (xs.getD i z160)
    refine ⟨K + 1, fun k hk => ?_⟩
    dsimp only
    obtain ⟨m, rfl⟩ : ∃ m, k = m + 1 := ⟨k - 1, by omega⟩
    simp only [laws_toAlphaTestS.l0]
    rw [if_pos (by omega), if_pos (by omega), hrd, h1]
    simp only [Option.bind_some]
    rw [if_pos (by omega), wrap_succ hi (by omega), Int.toNat_natCast]
    exact hK m (by omega)
  · intro out ho
    refine ⟨1, fun k hk => ?_⟩
    dsimp only
    obtain ⟨m, rfl⟩ : ∃ m, k = m + 1 := ⟨k - 1, by omega⟩
    simp only [laws_toAlphaTestS.l0]
    rw [if_neg (by omega)]
theorem eq_AlphaTestS (xs : List S106) (hl : xs.length ≤ 9223372036854775807) : Ev (fun k => laws_eqAlphaTestS.f k xs xs) true := by
  have key := eq_loop xs.length (fun k i => laws_eqAlphaTestS.l0 k xs xs i) ?_ ?_
  · obtain ⟨K, hK⟩ := key
    refine ⟨K, fun k hk => ?_⟩
    dsimp only
    unfold laws_eqAlphaTestS.f
    rw [if_pos (by trivial)]
    exact hK k hk
  · intro i hi h
    obtain ⟨K, hK⟩ := h
    have hrd : rd_T106 xs (i : Int) = xs.getD i z106 := by simp [rd_T106]
    have h1 := eq_AlphaTest (xs.getD i z106)
    refine ⟨K + 1, fun k hk => ?_⟩
    dsimp only
    obtain ⟨m, rfl⟩ : ∃ m, k = m + 1 := ⟨k - 1, by omega⟩
    simp only [laws_eqAlphaTestS.l0]
    rw [if_pos (by omega), if_pos (by omega), if_pos (by omega), hrd, h1]
    simp only [Option.bind_some]
    rw [if_pos (by trivial), wrap_succ hi hl]
    exact hK m (by omega)
  · refine ⟨1, fun k hk => ?_⟩
    dsimp only
    obtain ⟨m, rfl⟩ : ∃ m, k = m + 1 := ⟨k - 1, by omega⟩
    simp only [laws_eqAlphaTestS.l0]
    rw [if_neg (by omega)]
def cvAlpha (x : S25) : S34 := ⟨x.f0, x.f1, (x.f2.map cvAlphaTest)⟩
def tzAlpha (x : S25) : Nat := x.f0.size + tzAlphaTestS x.f2
def okAlpha (x : S25) : Prop := x.f0.size ≤ 9223372036854775807 ∧ okInt x.f1 ∧ okAlphaTestS x.f2
theorem sz_Alpha (x : S25) (hok : okAlpha x) (left : Int) (h0 : 0 ≤ left) (h1 : left ≤ 1048576) : Ev (fun k => laws_szAlpha.f k x.f0 x.f1 x.f2 left) (szv (tzAlpha x) left) := by
  obtain ⟨o0, o1, o2⟩ := hok
  have e0 : wrap64 (left - (x.f0.size : Int)) = left - (x.f0.size : Int) := wrap_left (by omega) (by omega) o0
  by_cases c0 : left - (x.f0.size : Int) < 0
  · have hz : szv (tzAlpha x) left = -1 := szv_neg (by unfold tzAlpha; omega)
    rw [hz]
    refine ⟨0, fun k hk => ?_⟩
    dsimp only
    unfold laws_szAlpha.f
    rw [e0, if_pos c0]
    try rfl
  · skip
    obtain ⟨K2, s2⟩ := sz_AlphaTestS x.f2 o2 (left - (x.f0.size : Int)) (by omega) (by omega)
    by_cases c2 : (left - (x.f0.size : Int)) < ((tzAlphaTestS x.f2 : Nat) : Int)
    · have hz : szv (tzAlpha x) left = -1 := szv_neg (by unfold tzAlpha; omega)
      rw [hz]
      simp only [szv_neg c2] at s2
      refine ⟨K2, fun k hk => ?_⟩
      dsimp only
      unfold laws_szAlpha.f
      rw [e0, if_neg c0]
      rw [s2 k (by omega)]
      rfl
    · have d2 : ((tzAlphaTestS x.f2 : Nat) : Int) ≤ (left - (x.f0.size : Int)) := by omega
      simp only [szv_pos d2] at s2
      have hz : szv (tzAlpha x) left = ((left - (x.f0.size : Int)) - ((tzAlphaTestS x.f2 : Nat) : Int)) := by rw [szv_pos (by unfold tzAlpha; omega)]; unfold tzAlpha; omega
      rw [hz]
      refine ⟨K2, fun k hk => ?_⟩
      dsimp only
      unfold laws_szAlpha.f
      rw [e0, if_neg c0]
      rw [s2 k (by omega)]
      simp only [Option.bind_some]
      rw [if_neg (by omega)]
      try rfl
theorem to_Alpha (x : S25) (hs : tzAlpha x ≤ 1048576) : Ev (fun k => laws_toAlpha.f k x.f0 x.f1 x.f2) (x.f0, x.f1, (x.f2.map cvAlphaTest)) := by
  unfold tzAlpha at hs
  obtain ⟨K2, h2⟩ := to_AlphaTestS x.f2 (by omega)
  dsimp only at h2
  refine ⟨K2, fun k hk => ?_⟩
  dsimp only
  unfold laws_toAlpha.f
  rw [h2 k (by omega)]
  simp only [Option.bind_some]
  try rfl
def leAlpha (x : S34) : Prop := x.f2.length ≤ 9223372036854775807
theorem eq_Alpha (x : S34) (hl : leAlpha x) : Ev (fun k => laws_eqAlpha.f k x.f0 x.f1 x.f2 x.f0 x.f1 x.f2) true := by
  have o2 := hl
  unfold leAlpha at o2
  obtain ⟨K2, h2⟩ := eq_AlphaTestS x.f2 o2
  dsimp only at h2
  refine ⟨K2, fun k hk => ?_⟩
  dsimp only
  unfold laws_eqAlpha.f
  rw [if_pos (by trivial)]
  rw [if_pos (by trivial)]
  rw [h2 k (by omega)]
  simp only [Option.bind_some]
  rw [if_pos (by trivial)]
theorem le_cvAlpha (x : S25) (hs : tzAlpha x ≤ 1048576) : leAlpha (cvAlpha x) := by
  unfold tzAlpha at hs
  exact by show (x.f2.map cvAlphaTest).length ≤ _; rw [List.length_map]; unfold tzAlphaTestS at hs; omega
def cvFact (x : S28) : S38 := ⟨x.f0, x.f1, (x.f2.map cvValue)⟩
def tzFact (x : S28) : Nat := x.f1.size + tzValueS x.f2
def okFact (x : S28) : Prop := okInt x.f0 ∧ x.f1.size ≤ 9223372036854775807 ∧ okValueS x.f2
theorem sz_Fact (x : S28) (hok : okFact x) (left : Int) (h0 : 0 ≤ left) (h1 : left ≤ 1048576) : Ev (fun k => laws_szFact.f k x.f0 x.f1 x.f2 left) (szv (tzFact x) left) := by
  obtain ⟨o0, o1, o2⟩ := hok
  have e1 : wrap64 (left - (x.f1.size : Int)) = left - (x.f1.size : Int) := wrap_left (by omega) (by omega) o1
  by_cases c1 : left - (x.f1.size : Int) < 0
  · have hz : szv (tzFact x) left = -1 := szv_neg (by unfold tzFact; omega)
    rw [hz]
    refine ⟨0, fun k hk => ?_⟩
    dsimp only
    unfold laws_szFact.f
    rw [e1, if_pos c1]
    try rfl
  · skip
    obtain ⟨K2, s2⟩ := sz_ValueS x.f2 o2 (left - (x.f1.size : Int)) (by omega) (by omega)
    by_cases c2 : (left - (x.f1.size : Int)) < ((tzValueS x.f2 : Nat) : Int)
    · have hz : szv (tzFact x) left = -1 := szv_neg (by unfold tzFact; omega)
      rw [hz]
      simp only [szv_neg c2] at s2
      refine ⟨K2, fun k hk => ?_⟩
      dsimp only
      unfold laws_szFact.f
      rw [e1, if_neg c1]
      rw [s2 k (by omega)]
      rfl
    · have d2 : ((tzValueS x.f2 : Nat) : Int) ≤ (left - (x.f1.size : Int)) := by omega
      simp only [szv_pos d2] at s2
      have hz : szv (tzFact x) left = ((left - (x.f1.size : Int)) - ((tzValueS x.f2 : Nat) : Int)) := by rw [szv_pos (by unfold tzFact; omega)]; unfold tzFact; omega
      rw [hz]
      refine ⟨K2, fun k hk => ?_⟩
      dsimp only
      unfold laws_szFact.f
      rw [e1, if_neg c1]
      rw [s2 k (by omega)]
      simp only [Option.bind_some]
      rw [if_neg (by omega)]
      try rfl
theorem to_Fact (x : S28) (hs : tzFact x ≤ 1048576) : Ev (fun k => laws_toFact.f k x.f0 x.f1 x.f2) (x.f0, x.f1, (x.f2.map cvValue)) := by
  unfold tzFact at hs
  obtain ⟨K2, h2⟩ := to_ValueS x.f2 (by omega)
  dsimp only at h2
  refine ⟨K2, fun k hk => ?_⟩
  dsimp only
  unfold laws_toFact.f
  rw [h2 k (by omega)]
  simp only [Option.bind_some]
  try rfl
def leFact (x : S38) : Prop := x.f2.length ≤ 9223372036854775807
theorem eq_Fact (x : S38) (hl : leFact x) : Ev (fun k => laws_eqFact.f k x.f0 x.f1 x.f2 x.f0 x.f1 x.f2) true := by
  have o2 := hl
  unfold leFact at o2
  obtain ⟨K2, h2⟩ := eq_ValueS x.f2 o2
  dsimp only at h2
  refine ⟨K2, fun k hk => ?_⟩
  dsimp only
  unfold laws_eqFact.f
  rw [if_pos (by trivial)]
  rw [if_pos (by trivial)]
  rw [h2 k (by omega)]
  simp only [Option.bind_some]
  rw [if_pos (by trivial)]
theorem le_cvFact (x : S28) (hs : tzFact x ≤ 1048576) : leFact (cvFact x) := by
  unfold tzFact at hs
  exact by show (x.f2.map cvValue).length ≤ _; rw [List.length_map]; unfold tzValueS at hs; omega
theorem l3Holds_some (op : Int) (a b : S104) : Ev (fun k => spec_l3Holds.f k op a.f0 a.f1 a.f2 b.f0 b.f1 b.f2) (cmpB op a b) := by
  refine ⟨2, fun k hk => ?_⟩
  obtain ⟨m, rfl⟩ : ∃ m, k = m + 2 := ⟨k - 2, by omega⟩
  rw [← cmpB_some]
  unfold spec_l3Holds.f impl_compare.f
  simp only [spec_l3Holds.j0, impl_compare.j0]
theorem specAlphaPass_loop (tests : List S106) (tag : Int) (fcls : ByteArray) (slots : List S104) (hm : tests.length ≤ 1048576) :
    ∀ i, i ≤ tests.length → Ev (fun k => spec_AlphaPass.l0 k tests (tests.length : Int) (i : Int) tag fcls slots) (!((tests.drop i).any (alphaBad slots))) := by
  refine up_ind ?_ ?_
  · rw [List.drop_length]
    refine ⟨1, fun k hk => ?_⟩
    obtain ⟨m, rfl⟩ : ∃ m, k = m + 1 := ⟨k - 1, by omega⟩
    simp only [spec_AlphaPass.l0]
    rw [if_neg (by omega)]
    rfl
  · intro i hi ih
    have hrd : rd_T106 tests (i : Int) = tests.getD i z106 := by simp [rd_T106]
    rw [drop_getD z106 hi, List.any_cons]
    generalize tests.getD i z106 = t at hrd
    obtain ⟨K, hK⟩ := ih
    by_cases b1 : t.f0 < 0
    · rw [show alphaBad slots t = true by unfold alphaBad; rw [if_pos b1]]
      refine ⟨2, fun k hk => ?_⟩
      obtain ⟨m, rfl⟩ : ∃ m, k = m + 2 := ⟨k - 2, by omega⟩
      simp only [spec_AlphaPass.l0, hrd, spec_AlphaPass.j2]
      rw [if_pos (by omega), if_pos (by omega), if_pos (by omega), if_pos b1]
      rfl
    by_cases b2 : t.f0 ≥ (slots.length : Int)
    · rw [show alphaBad slots t = true by unfold alphaBad; rw [if_neg b1, if_pos b2]]
      refine ⟨2, fun k hk => ?_⟩
      obtain ⟨m, rfl⟩ : ∃ m, k = m + 2 := ⟨k - 2, by omega⟩
      simp only [spec_AlphaPass.l0, hrd, spec_AlphaPass.j2]
      rw [if_pos (by omega), if_pos (by omega), if_pos (by omega), if_neg b1, if_pos b2]
      rfl
    by_cases b3 : t.f2 < -1
    · rw [show alphaBad slots t = true by unfold alphaBad; rw [if_neg b1, if_neg b2, if_pos b3]]
      refine ⟨2, fun k hk => ?_⟩
      obtain ⟨m, rfl⟩ : ∃ m, k = m + 2 := ⟨k - 2, by omega⟩
      simp only [spec_AlphaPass.l0, hrd, spec_AlphaPass.j2]
      rw [if_pos (by omega), if_pos (by omega), if_pos (by omega), if_neg b1, if_neg b2, if_pos b3]
      rfl
    by_cases b4 : t.f2 ≥ (slots.length : Int)
    · rw [show alphaBad slots t = true by unfold alphaBad; rw [if_neg b1, if_neg b2, if_neg b3, if_pos b4]]
      refine ⟨2, fun k hk => ?_⟩
      obtain ⟨m, rfl⟩ : ∃ m, k = m + 2 := ⟨k - 2, by omega⟩
      simp only [spec_AlphaPass.l0, hrd, spec_AlphaPass.j2]
      rw [if_pos (by omega), if_pos (by omega), if_pos (by omega), if_neg b1, if_neg b2, if_neg b3, if_pos (decide_eq_true b4)]
      rfl
    have hb : alphaBad slots t = !(cmpB t.f1 (rd_T104 slots t.f0) (if t.f2 ≥ 0 then rd_T104 slots t.f2 else t.f3)) := by
      unfold alphaBad; rw [if_neg b1, if_neg b2, if_neg b3, if_neg b4]
    obtain ⟨K2, h2⟩ := l3Holds_some t.f1 (rd_T104 slots t.f0) (if t.f2 ≥ 0 then rd_T104 slots t.f2 else t.f3)
    refine ⟨K + K2 + 2, fun k hk => ?_⟩
    obtain ⟨m, rfl⟩ : ∃ m, k = m + 2 := ⟨k - 2, by omega⟩
    have h2 := h2 m (by omega)
    have hK := hK m (by omega)
    dsimp only at h2 hK
    have b4' : ¬ (decide (t.f2 ≥ (slots.length : Int)) = true) := by simpa using b4
    simp only [spec_AlphaPass.l0, hrd, spec_AlphaPass.j2]
    rw [if_pos (by omega), if_pos (by omega), if_pos (by omega), if_neg b1, if_neg b2, if_neg b3, if_neg b4', hb]
    by_cases b5 : t.f2 ≥ 0
    · rw [if_pos b5] at h2
      rw [if_pos b5, if_pos (by omega), if_pos (by omega), if_pos (by omega), if_pos (by omega), h2, if_pos b5, wrap_succ hi (by omega)]
      simp only [Option.bind_some]
      cases hc : cmpB t.f1 (rd_T104 slots t.f0) (rd_T104 slots t.f2) with
      | true => rw [if_pos rfl, hK]; rfl
      | false => rfl
    · rw [if_neg b5] at h2
      rw [if_neg b5, if_pos (by omega), if_pos (by omega), h2, if_neg b5, wrap_succ hi (by omega)]
      simp only [Option.bind_some]
      cases hc : cmpB t.f1 (rd_T104 slots t.f0) t.f3 with
      | true => rw [if_pos rfl, hK]; rfl
      | false => rfl
theorem specAlphaPass_some (cls : ByteArray) (ar : Int) (tests : List S106) (tag : Int) (fcls : ByteArray) (slots : List S104) (hm : tests.length ≤ 1048576) :
    Ev (fun k => spec_AlphaPass.f k cls ar tests tag fcls slots) (alphaPassB cls ar tests fcls slots) := by
  obtain ⟨K, hK⟩ := specAlphaPass_loop tests tag fcls slots hm 0 (Nat.zero_le _)
  refine ⟨K + 1, fun k hk => ?_⟩
  obtain ⟨m, rfl⟩ : ∃ m, k = m + 1 := ⟨k - 1, by omega⟩
  have hK := hK m (by omega)
  dsimp only at hK
  rw [List.drop_zero] at hK
  dsimp only
  unfold spec_AlphaPass.f alphaPassB
  by_cases h1 : fcls.toList = cls.toList
  · rw [if_pos h1, if_pos h1]
    simp only [spec_AlphaPass.j0]
    by_cases h2 : (slots.length : Int) = ar
    · rw [if_pos h2, if_neg (by simp [h2])]
      exact hK
    · rw [if_neg h2, if_pos (by simpa using h2)]
  · rw [if_neg h1, if_neg h1]
    simp only [spec_AlphaPass.j0]
    rfl
def FnExactAlphaPass.Pure : Prop := ∀ (a : S25) (f : S28), okAlpha a → okFact f → ∃ k, laws_FnExactAlphaPass.f k a.f0 a.f1 a.f2 f.f0 f.f1 f.f2 = some true
theorem FnExactAlphaPass : FnExactAlphaPass.Pure := by
  intro a f ha hf
  obtain ⟨K1, h1⟩ := sz_Alpha a ha 1048576 (by omega) (by omega)
  dsimp only at h1
  by_cases c1 : (1048576 : Int) < tzAlpha a
  · rw [szv_neg c1] at h1
    refine ⟨K1, ?_⟩
    unfold laws_FnExactAlphaPass.f
    rw [h1 K1 (Nat.le_refl _)]
    rfl
  have d1 : (tzAlpha a : Int) ≤ 1048576 := by omega
  rw [szv_pos d1] at h1
  obtain ⟨K2, h2⟩ := sz_Fact f hf (1048576 - (tzAlpha a : Int)) (by omega) (by omega)
  dsimp only at h2
  by_cases c2 : (1048576 : Int) - tzAlpha a < tzFact f
  · rw [szv_neg c2] at h2
    refine ⟨K1 + K2, ?_⟩
    unfold laws_FnExactAlphaPass.f
    rw [h1 _ (by omega)]
    simp only [Option.bind_some]
    rw [if_neg (by omega), h2 _ (by omega)]
    rfl
  have d2 : (tzFact f : Int) ≤ 1048576 - tzAlpha a := by omega
  rw [szv_pos d2] at h2
  obtain ⟨K3, h3⟩ := to_Alpha a (by omega)
  obtain ⟨K4, h4⟩ := to_Fact f (by omega)
  have hl1 : (a.f2.map cvAlphaTest).length ≤ 1048576 := by rw [List.length_map]; unfold tzAlpha tzAlphaTestS at d1; omega
  have hl2 : (f.f2.map cvValue).length ≤ 1048576 := by rw [List.length_map]; unfold tzFact tzValueS at d2; omega
  obtain ⟨K5, h5⟩ := specAlphaPass_some a.f0 a.f1 (a.f2.map cvAlphaTest) f.f0 f.f1 (f.f2.map cvValue) hl1
  dsimp only at h3 h4 h5
  have h6 : impl_AlphaPass.f a.f0 a.f1 (a.f2.map cvAlphaTest) f.f0 f.f1 (f.f2.map cvValue) = some (alphaPassB a.f0 a.f1 (a.f2.map cvAlphaTest) f.f1 (f.f2.map cvValue)) := by
    unfold impl_AlphaPass.f
    rw [if_pos ⟨by unfold bigN; omega, by unfold bigN; omega⟩]
  obtain ⟨K7, h7⟩ := eq_Alpha (cvAlpha a) (le_cvAlpha a (by omega))
  obtain ⟨K8, h8⟩ := eq_Fact (cvFact f) (le_cvFact f (by omega))
  dsimp only [cvAlpha, cvFact] at h7 h8
  refine ⟨K1 + K2 + K3 + K4 + K5 + K7 + K8, ?_⟩
  unfold laws_FnExactAlphaPass.f
  rw [h1 _ (by omega)]
  simp only [Option.bind_some]
  rw [if_neg (by omega), h2 _ (by omega)]
  simp only [Option.bind_some]
  rw [if_neg (by omega), h3 _ (by omega), h4 _ (by omega)]
  simp only [Option.bind_some]
  rw [h5 _ (by omega), h6]
  simp only [Option.bind_some]
  rw [if_neg (by simp), h7 _ (by omega)]
  simp only [Option.bind_some]
  rw [if_pos (by trivial), h8 _ (by omega)]
  rfl
end Go.Proofs.Ytoncacdehhmpaaa.Pure
namespace Go.Proofs.YtoncacdehhmpaaaX
open Go.RowKit Go.Proofs.YtoncacdehhmpaaaW.PrintWords
set_option linter.unusedVariables false
set_option linter.unusedSimpArgs false
def Rdb {α : Type} (P : Program) (W : World) (T : TypeId) (d : Kd α) (ok : α → Prop) : Prop :=
  ∀ (H : Type) (enc : TypeId × Value → H) (sp : Nat → Bool) (fuel : Nat) (cs : List Value) (r : DataW H × List MemPlace), DataW.trod enc P W 0 sp true fuel T cs = some r → ∃ x, d.K W x cs ∧ ok x
section
variable {P : Program} {W : World} {T : TypeId}
theorem rdb_string (hu : P.underlying T = some .string) : Rdb P W T Kd.string (fun s => s.size ≤ 9223372036854775807) := by
  intro H enc sp fuel cs r h
  obtain ⟨s, rfl, _, hs⟩ := DataW.trod_string hu h
  exact ⟨s, rfl, by simpa [maxLen] using hs⟩
theorem list_choice {α : Type} (Q : Nat → α → Prop) : ∀ n, (∀ i, i < n → ∃ x, Q i x) → ∃ xs : List α, xs.length = n ∧ ∀ i x, xs[i]? = some x → Q i x
  | 0, _ => ⟨[], rfl, fun i x h => by simp at h⟩
  | n + 1, h => by
    obtain ⟨xs, hl, hx⟩ := list_choice Q n (fun i hi => h i (by omega))
    obtain ⟨y, hy⟩ := h n (by omega)
    refine ⟨xs ++ [y], by simp [hl], fun i x hi => ?_⟩
    rcases Nat.lt_or_ge i xs.length with c | c
    · rw [List.getElem?_append_left c] at hi
      exact hx i x hi
    · rw [List.getElem?_append_right c] at hi
      have e : i - xs.length = 0 := by
        rcases Nat.eq_zero_or_pos (i - xs.length) with e | e
        · exact e
        · rw [List.getElem?_eq_none (by simp; omega)] at hi; cases hi
      rw [e] at hi
      have : y = x := by simpa using hi
      rw [← this, show i = n by omega]
      exact hy
theorem add_plus (a : Addr) (m n : Nat) : (a.add m).add n = a.add (m + n) := by
  unfold Addr.add
  by_cases h1 : m = 0
  · subst h1; simp
  · by_cases h2 : n = 0
    · subst h2; simp
    · simp [h1, h2]; omega
theorem rdb_slice {α : Type} {d : Kd α} {ok : α → Prop} {e : TypeId} (hu : P.underlying T = some (.slice e)) (hc : P.cellsOf e = d.sz) (he : Rdb P W e d ok) :
    Rdb P W T (Kd.slice e d) (fun xs => xs.length ≤ 9223372036854775807 ∧ ∀ x, x ∈ xs → ok x) := by
  intro H enc sp fuel cs r h
  rcases DataW.trod_slice hu h with ⟨rfl, _⟩ | ⟨a, len, cap, elems, rest, n, _, rfl, _, _, hl, hcap, hel, hrd, _, _⟩
  · exact ⟨[], ⟨none, 0, rfl, Nat.le_refl _, rfl, by simp, fun h => absurd h (by simp)⟩, by simp, fun x hx => absurd hx (by simp)⟩
  · have hex : ∀ i, i < len → ∃ x, ∃ c, c.length = d.sz ∧ d.K W x c ∧ (∀ j u, c[j]? = some u → W.cell? (a.add (i * d.sz + j)) = some u) ∧ ok x := by
      intro i hi
      have h1 := hrd i hi
      rw [List.getElem?_eq_getElem (by omega)] at h1
      obtain ⟨c, h2, h3⟩ := Option.bind_eq_some_iff.1 h1
      obtain ⟨x, hx, hok⟩ := he H enc sp n c _ h3
      obtain ⟨_, h5, h6⟩ := World.cells?_some h2
      refine ⟨x, c, d.K_len hx, hx, fun j u hj => ?_, hok⟩
      have hlt : j < P.cellsOf e := by
        have := (List.getElem?_eq_some_iff.1 hj).1
        omega
      have h7 := h6 j hlt
      rw [hj, hc, add_plus] at h7
      exact h7
    obtain ⟨xs, hxl, hxs⟩ := list_choice _ len hex
    refine ⟨xs, ⟨some a, cap, by rw [hxl], by omega, rfl, by simp [maxLen] at hcap; omega, fun _ => ⟨a, rfl, fun j p hj => ?_⟩⟩, by simp [maxLen] at hcap; omega, fun x hx => ?_⟩
    · obtain ⟨c, h1, h2, h3, _⟩ := hxs j p hj
      exact ⟨c, h1, h2, h3⟩
    · obtain ⟨i, hi, e⟩ := List.getElem_of_mem hx
      obtain ⟨c, _, _, _, h4⟩ := hxs i x (by rw [List.getElem?_eq_getElem hi, e])
      exact h4
theorem rdb_i64 (hu : P.underlying T = some (.int .i64)) : Rdb P W T (Kd.int .i64) okInt := by
  intro H enc sp fuel cs r h
  obtain ⟨n, rfl, _, hw⟩ := DataW.trod_int hu h
  refine ⟨n, rfl, ?_⟩
  simp only [Lit.wf, Bool.and_eq_true, decide_eq_true_eq] at hw
  exact hw
theorem len_s {α : Type} {cs : List α} {n : Nat} (h : cs.length = n + 1) : ∃ a r, cs = a :: r ∧ r.length = n := by
  cases cs with
  | nil => cases h
  | cons a r => exact ⟨a, r, rfl, by simpa using h⟩
theorem len_z {α : Type} {cs : List α} (h : cs.length = 0) : cs = [] := List.length_eq_zero_iff.1 h
theorem okWide_st {w : World} {r : Reach} {base : Nat} {v : Value} {fs : Array Field} (ht : P.underlying T = some (.struct fs)) (h : Value.okWide P w r base T v) : ∃ cs, v = .agg cs := by
  simp only [Value.okWide, ht] at h
  obtain ⟨cs, hcs, _⟩ := h
  exact ⟨cs, hcs⟩
end
end Go.Proofs.YtoncacdehhmpaaaX
