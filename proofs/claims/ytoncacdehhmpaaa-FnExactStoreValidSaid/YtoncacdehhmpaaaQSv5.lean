/- The row of the law FnExactStoreValid: for every input the call returns true, and each argument reads behind it as it read before; no condition of ours. -/
import Derived.Test.YtoncacdehhmpaaaRows
import Derived.WalkKit
import Derived.ProofKit
import Derived.OpenShut
import Derived.ShutString
import Derived.ChangeOld
import Derived.Below
import Derived.SizedLaws
import Derived.Test.YtoncacdehhmpaaaQSv4
namespace Go.Proofs.Ytoncacdehhmpaaa.fnExactStoreValid
open Go.ChangeShapes Go.WideShapes Go.ChangeAt Go.RowKit
open Go.ChangeMaps (open_string shut_string)
open Go.Proofs.Ytoncacdehhmpaaa.P Go.Proofs.YtoncacdehhmpaaaW.PrintWords Go.Proofs.YtoncacdehhmpaaaW.PrintLast Go.Proofs.YtoncacdehhmpaaaX Go.Proofs.Ytoncacdehhmpaaa.Pure
set_option linter.unusedVariables false
set_option linter.unusedSimpArgs false
theorem own : ownKnob Try.prog.godebug = none := by kernel_rfl
theorem laidOut : laidOutB Try.prog = true := by kernel_rfl
theorem rdbValue (W : World) : Rdb Try.prog W 158 k158 okValue := by
  intro H enc sp fuel cs r h
  obtain ⟨xs, n, _, _, hl, hxl, hf⟩ := DataW.trod_struct Try.underlying158 h
  have e0_ : cs.length = 3 := hl.trans (by kernel_rfl)
  have hxl : xs.length = 3 := hxl
  clear hl h
  obtain ⟨a0, r0, rfl, e1_⟩ := len_s e0_
  obtain ⟨a1, r1, rfl, e2_⟩ := len_s e1_
  obtain ⟨a2, r2, rfl, e3_⟩ := len_s e2_
  obtain rfl := len_z e3_
  have g0 : DataW.trod enc Try.prog W 0 sp true n 3 (([a0, a1, a2].drop 0).take (Try.prog.cellsOf 3)) = xs[0]? := hf 0 _ rfl
  rw [show Try.prog.cellsOf 3 = 1 by kernel_rfl, List.getElem?_eq_getElem (by omega)] at g0
  obtain ⟨x0, q0, o0⟩ := (rdb_i64 Try.underlying3) H enc sp n [a0] _ g0
  have g1 : DataW.trod enc Try.prog W 0 sp true n 2 (([a0, a1, a2].drop 1).take (Try.prog.cellsOf 2)) = xs[1]? := hf 1 _ rfl
  rw [show Try.prog.cellsOf 2 = 1 by kernel_rfl, List.getElem?_eq_getElem (by omega)] at g1
  obtain ⟨x1, q1, o1⟩ := (rdb_i64 Try.underlying2) H enc sp n [a1] _ g1
  have g2 : DataW.trod enc Try.prog W 0 sp true n 9 (([a0, a1, a2].drop 2).take (Try.prog.cellsOf 9)) = xs[2]? := hf 2 _ rfl
  rw [show Try.prog.cellsOf 9 = 1 by kernel_rfl, List.getElem?_eq_getElem (by omega)] at g2
  obtain ⟨x2, q2, o2⟩ := (rdb_string Try.underlying9) H enc sp n [a2] _ g2
  exact ⟨⟨x0, x1, x2⟩, ⟨[a0], [a1, a2], rfl, q0, ⟨[a1], [a2], rfl, q1, q2⟩⟩, o0, o1, o2⟩
theorem rdbFact (W : World) : Rdb Try.prog W 28 k28 okFact := by
  intro H enc sp fuel cs r h
  obtain ⟨xs, n, _, _, hl, hxl, hf⟩ := DataW.trod_struct Try.underlying28 h
  have e0_ : cs.length = 3 := hl.trans (by kernel_rfl)
  have hxl : xs.length = 3 := hxl
  clear hl h
  obtain ⟨a0, r0, rfl, e1_⟩ := len_s e0_
  obtain ⟨a1, r1, rfl, e2_⟩ := len_s e1_
  obtain ⟨a2, r2, rfl, e3_⟩ := len_s e2_
  obtain rfl := len_z e3_
  have g0 : DataW.trod enc Try.prog W 0 sp true n 3 (([a0, a1, a2].drop 0).take (Try.prog.cellsOf 3)) = xs[0]? := hf 0 _ rfl
  rw [show Try.prog.cellsOf 3 = 1 by kernel_rfl, List.getElem?_eq_getElem (by omega)] at g0
  obtain ⟨x0, q0, o0⟩ := (rdb_i64 Try.underlying3) H enc sp n [a0] _ g0
  have g1 : DataW.trod enc Try.prog W 0 sp true n 9 (([a0, a1, a2].drop 1).take (Try.prog.cellsOf 9)) = xs[1]? := hf 1 _ rfl
  rw [show Try.prog.cellsOf 9 = 1 by kernel_rfl, List.getElem?_eq_getElem (by omega)] at g1
  obtain ⟨x1, q1, o1⟩ := (rdb_string Try.underlying9) H enc sp n [a1] _ g1
  have g2 : DataW.trod enc Try.prog W 0 sp true n 26 (([a0, a1, a2].drop 2).take (Try.prog.cellsOf 26)) = xs[2]? := hf 2 _ rfl
  rw [show Try.prog.cellsOf 26 = 1 by kernel_rfl, List.getElem?_eq_getElem (by omega)] at g2
  obtain ⟨x2, q2, o2⟩ := (rdb_slice Try.underlying26 (by kernel_rfl) (rdbValue W)) H enc sp n [a2] _ g2
  exact ⟨⟨x0, x1, x2⟩, ⟨[a0], [a1, a2], rfl, q0, ⟨[a1], [a2], rfl, q1, q2⟩⟩, o0, o1, o2⟩
theorem rdbStore (W : World) : Rdb Try.prog W 45 k45 okStore := by
  intro H enc sp fuel cs r h
  obtain ⟨xs, n, _, _, hl, hxl, hf⟩ := DataW.trod_struct Try.underlying45 h
  have e0_ : cs.length = 4 := hl.trans (by kernel_rfl)
  have hxl : xs.length = 4 := hxl
  clear hl h
  obtain ⟨a0, r0, rfl, e1_⟩ := len_s e0_
  obtain ⟨a1, r1, rfl, e2_⟩ := len_s e1_
  obtain ⟨a2, r2, rfl, e3_⟩ := len_s e2_
  obtain ⟨a3, r3, rfl, e4_⟩ := len_s e3_
  obtain rfl := len_z e4_
  have g0 : DataW.trod enc Try.prog W 0 sp true n 43 (([a0, a1, a2, a3].drop 0).take (Try.prog.cellsOf 43)) = xs[0]? := hf 0 _ rfl
  rw [show Try.prog.cellsOf 43 = 1 by kernel_rfl, List.getElem?_eq_getElem (by omega)] at g0
  obtain ⟨x0, q0, o0⟩ := (rdb_slice Try.underlying43 (by kernel_rfl) (rdbFact W)) H enc sp n [a0] _ g0
  have g1 : DataW.trod enc Try.prog W 0 sp true n 3 (([a0, a1, a2, a3].drop 1).take (Try.prog.cellsOf 3)) = xs[1]? := hf 1 _ rfl
  rw [show Try.prog.cellsOf 3 = 1 by kernel_rfl, List.getElem?_eq_getElem (by omega)] at g1
  obtain ⟨x1, q1, o1⟩ := (rdb_i64 Try.underlying3) H enc sp n [a1] _ g1
  have g2 : DataW.trod enc Try.prog W 0 sp true n 3 (([a0, a1, a2, a3].drop 2).take (Try.prog.cellsOf 3)) = xs[2]? := hf 2 _ rfl
  rw [show Try.prog.cellsOf 3 = 1 by kernel_rfl, List.getElem?_eq_getElem (by omega)] at g2
  obtain ⟨x2, q2, o2⟩ := (rdb_i64 Try.underlying3) H enc sp n [a2] _ g2
  have g3 : DataW.trod enc Try.prog W 0 sp true n 4 (([a0, a1, a2, a3].drop 3).take (Try.prog.cellsOf 4)) = xs[3]? := hf 3 _ rfl
  rw [show Try.prog.cellsOf 4 = 1 by kernel_rfl, List.getElem?_eq_getElem (by omega)] at g3
  obtain ⟨x3, q3, o3⟩ := (rdb_bool Try.underlying4) H enc sp n [a3] _ g3
  exact ⟨⟨x0, x1, x2, x3⟩, ⟨[a0], [a1, a2, a3], rfl, q0, ⟨[a1], [a2, a3], rfl, q1, ⟨[a2], [a3], rfl, q2, q3⟩⟩⟩, o0, o1, o2⟩
set_option maxRecDepth 100000 in
theorem lifted (os : Os) (started : os.Started) (H : Type) (enc : TypeId × Value → H) :
    ReturnsInHanded {} Try.checked os 5 .any (Rows.fnExactStoreValidSpec.pre6 enc Try.prog Try.f5 Rows.fnExactStoreValidRow.domain false) (Rows.fnExactStoreValidSpec.post enc Try.prog Try.f5 false true false false) := by
  refine returnsInHanded_of_change_sized (C := Try.checked) own started (by kernel_rfl) Try.func5
    (ChangeSpec.witness6 (enc := enc) (C := Try.checked) false ⟨#[], #[.agg #[.slice none 0 0, .int .i64 0, .int .i64 0, .bool false]], []⟩ 8 (by kernel_rfl) (by kernel_rfl) (by kernel_rfl) (by kernel_rfl)) ?_
  intro W base args ds gs before hval0 hW hcnd hsz0 _
  have hval : ∀ (j : Nat) t v, Try.f5.params[j]? = some t → args[j]? = some v → Value.okWide Try.prog W .any base t v := hval0
  have hW' := hW
  obtain ⟨p, q, hA0, hV, rfl, hfz, hnd⟩ := hW
  have hA : DataW.TrodAll enc Try.prog W 0 (fun _ => true) true Try.f5.params.toList args.toList ds p := hA0
  rw [Try.params5] at hA hval
  obtain ⟨v0, vs0, d0, ds0, p0, q0, hargs, rfl, rfl, h0, r0⟩ := trodAll_cons hA
  obtain ⟨rfl, rfl, rfl⟩ := trodAll_nil r0
  obtain rfl : args = #[v0] := by cases args; simp_all
  obtain ⟨rfl, rfl⟩ := trodVars_none hV
  obtain ⟨cs0, rfl⟩ := okWide_st Try.underlying45 (hval 0 45 v0 rfl rfl)
  have k0 := h0
  have lt0 : ∀ x ∈ p0, x.block < W.heap.size := by obtain ⟨m, hm⟩ := k0; exact DataW.trod_lt m _ _ _ hm
  obtain ⟨fu0, hf0⟩ := h0
  obtain ⟨x0, hK0, ok0⟩ := rdbStore W H enc _ fu0 _ _ hf0
  obtain ⟨A0_0, c0_0, he0, hc0_0, hr0_0⟩ := k45_open hK0
  obtain rfl : cs0 = #[.slice A0_0 x0.f0.length c0_0, .int .i64 x0.f1, .int .i64 x0.f2, .bool x0.f3] := by apply Array.toList_inj.1; exact he0
  clear hA0 hval0 hsz0
  obtain ⟨k, h⟩ := Pure.FnExactStoreValid x0 ok0
  refine (laws_FnExactStoreValid.calls k _ _ _ _ _ _ true W hr0_0 hc0_0 h).mono fun e W' ⟨he, bel'⟩ => ?_
  have bel := bel'
  subst he
  exact ⟨_, rfl, _, _, _, [], _, [], hW', trodAll_mk1 (shut_bool Try.underlying4 _), (trodAll_cons_mk (Below.trod laidOut (by kernel_rfl) (of_decide_eq_true (by kernel_rfl)) k0 bel lt0) trodAll_mk0), rfl, bel.frame _, fun h => by cases h⟩
theorem over : Rows.fnExactStoreValidRow.holds Try.pinned (OpenSpec.ofChange Rows.fnExactStoreValidSpec) :=
  OpenClaim.holds_of_wide 5 Try.f5 rfl rfl rfl rfl rfl rfl rfl ⟨rfl, rfl, rfl, rfl, rfl⟩ rfl rfl rfl rfl rfl (by kernel_rfl) Try.func5 (by kernel_rfl)
    (of_decide_eq_true (by kernel_rfl)) (by unfold Func.isWrapper; first | (rw [if_pos (by decide +kernel)]; kernel_rfl) | (rw [if_neg (by decide +kernel)]; exact ⟨rfl, rfl⟩))
    (fun os started H enc _ => lifted os started H enc)
theorem proved : Rows.FnExactStoreValidSaid := over
end Go.Proofs.Ytoncacdehhmpaaa.fnExactStoreValid
namespace Go.Proofs.Ytoncacdehhmpaaa
theorem fnExactStoreValid_holds : Rows.FnExactStoreValidSaid := fnExactStoreValid.proved
end Go.Proofs.Ytoncacdehhmpaaa
