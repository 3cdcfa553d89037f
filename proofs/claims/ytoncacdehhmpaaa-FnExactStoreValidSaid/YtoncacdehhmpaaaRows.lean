/-
  No cell of these rows narrows 'for every input' (looked for: loops, veiled, ifaces, maps, wideKeys, modest, calm, conditions, laid).
  DERIVED. THE GIVEN ROWS OF THIS SEAT. 7 by the template 'for every input the law returns true; each argument reads behind the call as it read before'; 0 by the template 'total and deterministic' (their statements: YtoncacdehhmpaaaTotals.lean).
  GIVEN WITH THE SEED: the statements are not yours to turn. If you find one false, say at which input.
  Laid BY PROGRAM, IN A SANDBOX (cutbox-rows.mjs): the forced cells as the released guide's own fill.sh prints them over the translation e0afae73af3ce884… (all of the seat's roots in one cut). By AI agents, Wed Nov 11 2026. No macro, syntax, notation, axiom, sorry.
-/
import Derived.Test.YtoncacdehhmpaaaChecked
import GoSem.Claim
import GoSem.ClaimJoined
import GoSem.ClaimMapViews
import Derived.JoinedTies
import Derived.KernelRfl
namespace Go.Proofs.Ytoncacdehhmpaaa
/- THE CELL 'sum', in the pinned program and in every row, IS THE sha256 OF THE DUMP (.gsa) THAT YtoncacdehhmpaaaProg.lean LOADS. Nothing in Lean hashes anything: it is a label: what it is worth is what the hold of that sum in a sandbox is worth. -/
noncomputable def Try.pinned : Pinned := { name := "ytoncacdehhmpaaa", sum := "e0afae73af3ce8840d24876376da8bd9585d189333255ea43f85be5b89f5a9e5", checked := Try.checked }
namespace Rows
def none {H : Type} : Left H := { results := [], args := [] }

/-- 'laws.FnExactConstants': WHATEVER THE INPUT: true; the input reads as it did. -/
def fnExactConstantsSpec : ChangeSpec := { name := "fnExactConstants", fn := fun _ => fun
  | [] => { results := [.lit (.bool true)], args := [] }
  | _ => none }
def fnExactConstantsRow : OpenClaim := { program := "ytoncacdehhmpaaa", sum := "e0afae73af3ce8840d24876376da8bd9585d189333255ea43f85be5b89f5a9e5", func := "loop.example/s01311/laws.FnExactConstants", spec := "fnExactConstants", plainKeys := false, apart := false }
def FnExactConstantsSaid : Prop := fnExactConstantsRow.holds Try.pinned (OpenSpec.ofChange fnExactConstantsSpec)

/-- ITS FALSE NEIGHBOUR: 'it returns false'. Refute it at one input. -/
def fnExactConstantsWrong : ChangeSpec := { name := "fnExactConstants", fn := fun _ => fun
  | [] => { results := [.lit (.bool false)], args := [] }
  | _ => none }
def FnExactConstantsWrongFalsely : Prop := fnExactConstantsRow.holds Try.pinned (OpenSpec.ofChange fnExactConstantsWrong)

/-- 'laws.FnExactAlphaPass': WHATEVER THE INPUT: true; the input reads as it did. -/
def fnExactAlphaPassSpec : ChangeSpec := { name := "fnExactAlphaPass", fn := fun _ => fun
  | [d1, d2] => { results := [.lit (.bool true)], args := [d1, d2] }
  | _ => none }
def fnExactAlphaPassRow : OpenClaim := { program := "ytoncacdehhmpaaa", sum := "e0afae73af3ce8840d24876376da8bd9585d189333255ea43f85be5b89f5a9e5", func := "loop.example/s01311/laws.FnExactAlphaPass", spec := "fnExactAlphaPass", unfollowed := true, recurses := true, plainKeys := false, apart := false }
def FnExactAlphaPassSaid : Prop := fnExactAlphaPassRow.holds Try.pinned (OpenSpec.ofChange fnExactAlphaPassSpec)

/-- ITS FALSE NEIGHBOUR: 'it returns false'. Refute it at one input. -/
def fnExactAlphaPassWrong : ChangeSpec := { name := "fnExactAlphaPass", fn := fun _ => fun
  | [d1, d2] => { results := [.lit (.bool false)], args := [d1, d2] }
  | _ => none }
def FnExactAlphaPassWrongFalsely : Prop := fnExactAlphaPassRow.holds Try.pinned (OpenSpec.ofChange fnExactAlphaPassWrong)

/-- 'laws.FnExactStoreValid': WHATEVER THE INPUT: true; the input reads as it did. -/
def fnExactStoreValidSpec : ChangeSpec := { name := "fnExactStoreValid", fn := fun _ => fun
  | [d] => { results := [.lit (.bool true)], args := [d] }
  | _ => none }
def fnExactStoreValidRow : OpenClaim := { program := "ytoncacdehhmpaaa", sum := "e0afae73af3ce8840d24876376da8bd9585d189333255ea43f85be5b89f5a9e5", func := "loop.example/s01311/laws.FnExactStoreValid", spec := "fnExactStoreValid", unfollowed := true, recurses := true, plainKeys := false, apart := false }
def FnExactStoreValidSaid : Prop := fnExactStoreValidRow.holds Try.pinned (OpenSpec.ofChange fnExactStoreValidSpec)

/-- ITS FALSE NEIGHBOUR: 'it returns false'. Refute it at one input. -/
def fnExactStoreValidWrong : ChangeSpec := { name := "fnExactStoreValid", fn := fun _ => fun
  | [d] => { results := [.lit (.bool false)], args := [d] }
  | _ => none }
def FnExactStoreValidWrongFalsely : Prop := fnExactStoreValidRow.holds Try.pinned (OpenSpec.ofChange fnExactStoreValidWrong)

/-- 'laws.FnExactAlphaOf': WHATEVER THE INPUT: true; the input reads as it did. -/
def fnExactAlphaOfSpec : ChangeSpec := { name := "fnExactAlphaOf", fn := fun _ => fun
  | [d] => { results := [.lit (.bool true)], args := [d] }
  | _ => none }
def fnExactAlphaOfRow : OpenClaim := { program := "ytoncacdehhmpaaa", sum := "e0afae73af3ce8840d24876376da8bd9585d189333255ea43f85be5b89f5a9e5", func := "loop.example/s01311/laws.FnExactAlphaOf", spec := "fnExactAlphaOf", unfollowed := true, recurses := true, plainKeys := false, apart := false }
def FnExactAlphaOfSaid : Prop := fnExactAlphaOfRow.holds Try.pinned (OpenSpec.ofChange fnExactAlphaOfSpec)

/-- ITS FALSE NEIGHBOUR: 'it returns false'. Refute it at one input. -/
def fnExactAlphaOfWrong : ChangeSpec := { name := "fnExactAlphaOf", fn := fun _ => fun
  | [d] => { results := [.lit (.bool false)], args := [d] }
  | _ => none }
def FnExactAlphaOfWrongFalsely : Prop := fnExactAlphaOfRow.holds Try.pinned (OpenSpec.ofChange fnExactAlphaOfWrong)

/-- 'laws.FnExactRecency': WHATEVER THE INPUT: true; the input reads as it did. -/
def fnExactRecencySpec : ChangeSpec := { name := "fnExactRecency", fn := fun _ => fun
  | [d] => { results := [.lit (.bool true)], args := [d] }
  | _ => none }
def fnExactRecencyRow : OpenClaim := { program := "ytoncacdehhmpaaa", sum := "e0afae73af3ce8840d24876376da8bd9585d189333255ea43f85be5b89f5a9e5", func := "loop.example/s01311/laws.FnExactRecency", spec := "fnExactRecency", recurses := true, plainKeys := false, apart := false }
def FnExactRecencySaid : Prop := fnExactRecencyRow.holds Try.pinned (OpenSpec.ofChange fnExactRecencySpec)

/-- ITS FALSE NEIGHBOUR: 'it returns false'. Refute it at one input. -/
def fnExactRecencyWrong : ChangeSpec := { name := "fnExactRecency", fn := fun _ => fun
  | [d] => { results := [.lit (.bool false)], args := [d] }
  | _ => none }
def FnExactRecencyWrongFalsely : Prop := fnExactRecencyRow.holds Try.pinned (OpenSpec.ofChange fnExactRecencyWrong)

/-- 'laws.FnExactAlphaMems': WHATEVER THE INPUT: true; the input reads as it did. -/
def fnExactAlphaMemsSpec : ChangeSpec := { name := "fnExactAlphaMems", fn := fun _ => fun
  | [d1, d2] => { results := [.lit (.bool true)], args := [d1, d2] }
  | _ => none }
def fnExactAlphaMemsRow : OpenClaim := { program := "ytoncacdehhmpaaa", sum := "e0afae73af3ce8840d24876376da8bd9585d189333255ea43f85be5b89f5a9e5", func := "loop.example/s01311/laws.FnExactAlphaMems", spec := "fnExactAlphaMems", unfollowed := true, recurses := true, plainKeys := false, apart := false }
def FnExactAlphaMemsSaid : Prop := fnExactAlphaMemsRow.holds Try.pinned (OpenSpec.ofChange fnExactAlphaMemsSpec)

/-- ITS FALSE NEIGHBOUR: 'it returns false'. Refute it at one input. -/
def fnExactAlphaMemsWrong : ChangeSpec := { name := "fnExactAlphaMems", fn := fun _ => fun
  | [d1, d2] => { results := [.lit (.bool false)], args := [d1, d2] }
  | _ => none }
def FnExactAlphaMemsWrongFalsely : Prop := fnExactAlphaMemsRow.holds Try.pinned (OpenSpec.ofChange fnExactAlphaMemsWrong)

/-- 'laws.FnExactCheckRules': WHATEVER THE INPUT: true; the input reads as it did. -/
def fnExactCheckRulesSpec : ChangeSpec := { name := "fnExactCheckRules", fn := fun _ => fun
  | [d] => { results := [.lit (.bool true)], args := [d] }
  | _ => none }
def fnExactCheckRulesRow : OpenClaim := { program := "ytoncacdehhmpaaa", sum := "e0afae73af3ce8840d24876376da8bd9585d189333255ea43f85be5b89f5a9e5", func := "loop.example/s01311/laws.FnExactCheckRules", spec := "fnExactCheckRules", inPlace := ["internal/bytealg.IndexByteString"], unfollowed := true, recurses := true, plainKeys := false, apart := false }
def FnExactCheckRulesSaid : Prop := fnExactCheckRulesRow.holds Try.pinned (OpenSpec.ofChange fnExactCheckRulesSpec)

/-- ITS FALSE NEIGHBOUR: 'it returns false'. Refute it at one input. -/
def fnExactCheckRulesWrong : ChangeSpec := { name := "fnExactCheckRules", fn := fun _ => fun
  | [d] => { results := [.lit (.bool false)], args := [d] }
  | _ => none }
def FnExactCheckRulesWrongFalsely : Prop := fnExactCheckRulesRow.holds Try.pinned (OpenSpec.ofChange fnExactCheckRulesWrong)

/- THE SECOND FORM. 'bulk': how many values and letters a reading holds, each counted each time it is reached (what is shared counts as often as it is met; a slice's spare places count too). A statement '..UptoSaid' is the law's where the arguments, and the package variables that the reading takes, are together of bulk at most 1048576: NARROWER than '..Said'. Prove '..Said' where nothing that the law and all that it calls make is longer than what came in: it says more and counts as full. Else prove '..UptoSaid'. A law counts once. -/
mutual
def uptoBulk {H : Type} : DataW H → Nat
  | .lit (.string bytes) => bytes.length + 1
  | .lit _ => 1
  | .nil => 1
  | .ptr d => uptoBulk d + 1
  | .slice elems spare => uptoBulkAll elems + uptoBulkAll spare + 1
  | .agg parts => uptoBulkAll parts + 1
  | .iface _ d => uptoBulk d + 1
  | .map entries => uptoBulkEntries entries + 1
  | .held _ => 1
def uptoBulkAll {H : Type} : List (DataW H) → Nat
  | [] => 0
  | d :: r => uptoBulk d + uptoBulkAll r
def uptoBulkEntries {H : Type} : List (Lit × DataW H) → Nat
  | [] => 0
  | x :: r => uptoBulkEntry x + uptoBulkEntries r
def uptoBulkEntry {H : Type} : Lit × DataW H → Nat
  | (.string bytes, d) => bytes.length + uptoBulk d + 1
  | (_, d) => uptoBulk d + 1
 end
def uptoSmall : (H : Type) → List (DataW H) → Bool := fun _ ds => decide (uptoBulkAll ds ≤ 1048576)
def OpenSpec.upto (s : _root_.Go.ChangeSpec) : _root_.Go.OpenSpec := { _root_.Go.OpenSpec.ofChange s with cond := some uptoSmall }

/-- 'laws.FnExactConstants', WHERE WHAT IT READS IS OF BULK AT MOST 1048576: true; the input reads as it did. -/
def fnExactConstantsUptoRow : OpenClaim := { program := "ytoncacdehhmpaaa", sum := "e0afae73af3ce8840d24876376da8bd9585d189333255ea43f85be5b89f5a9e5", func := "loop.example/s01311/laws.FnExactConstants", spec := "fnExactConstants", plainKeys := false, apart := false, narrowed := true }
def FnExactConstantsUptoSaid : Prop := fnExactConstantsUptoRow.holds Try.pinned (OpenSpec.upto fnExactConstantsSpec)

/-- 'laws.FnExactAlphaPass', WHERE WHAT IT READS IS OF BULK AT MOST 1048576: true; the input reads as it did. -/
def fnExactAlphaPassUptoRow : OpenClaim := { program := "ytoncacdehhmpaaa", sum := "e0afae73af3ce8840d24876376da8bd9585d189333255ea43f85be5b89f5a9e5", func := "loop.example/s01311/laws.FnExactAlphaPass", spec := "fnExactAlphaPass", unfollowed := true, recurses := true, plainKeys := false, apart := false, narrowed := true }
def FnExactAlphaPassUptoSaid : Prop := fnExactAlphaPassUptoRow.holds Try.pinned (OpenSpec.upto fnExactAlphaPassSpec)

/-- 'laws.FnExactStoreValid', WHERE WHAT IT READS IS OF BULK AT MOST 1048576: true; the input reads as it did. -/
def fnExactStoreValidUptoRow : OpenClaim := { program := "ytoncacdehhmpaaa", sum := "e0afae73af3ce8840d24876376da8bd9585d189333255ea43f85be5b89f5a9e5", func := "loop.example/s01311/laws.FnExactStoreValid", spec := "fnExactStoreValid", unfollowed := true, recurses := true, plainKeys := false, apart := false, narrowed := true }
def FnExactStoreValidUptoSaid : Prop := fnExactStoreValidUptoRow.holds Try.pinned (OpenSpec.upto fnExactStoreValidSpec)

/-- 'laws.FnExactAlphaOf', WHERE WHAT IT READS IS OF BULK AT MOST 1048576: true; the input reads as it did. -/
def fnExactAlphaOfUptoRow : OpenClaim := { program := "ytoncacdehhmpaaa", sum := "e0afae73af3ce8840d24876376da8bd9585d189333255ea43f85be5b89f5a9e5", func := "loop.example/s01311/laws.FnExactAlphaOf", spec := "fnExactAlphaOf", unfollowed := true, recurses := true, plainKeys := false, apart := false, narrowed := true }
def FnExactAlphaOfUptoSaid : Prop := fnExactAlphaOfUptoRow.holds Try.pinned (OpenSpec.upto fnExactAlphaOfSpec)

/-- 'laws.FnExactRecency', WHERE WHAT IT READS IS OF BULK AT MOST 1048576: true; the input reads as it did. -/
def fnExactRecencyUptoRow : OpenClaim := { program := "ytoncacdehhmpaaa", sum := "e0afae73af3ce8840d24876376da8bd9585d189333255ea43f85be5b89f5a9e5", func := "loop.example/s01311/laws.FnExactRecency", spec := "fnExactRecency", recurses := true, plainKeys := false, apart := false, narrowed := true }
def FnExactRecencyUptoSaid : Prop := fnExactRecencyUptoRow.holds Try.pinned (OpenSpec.upto fnExactRecencySpec)

/-- 'laws.FnExactAlphaMems', WHERE WHAT IT READS IS OF BULK AT MOST 1048576: true; the input reads as it did. -/
def fnExactAlphaMemsUptoRow : OpenClaim := { program := "ytoncacdehhmpaaa", sum := "e0afae73af3ce8840d24876376da8bd9585d189333255ea43f85be5b89f5a9e5", func := "loop.example/s01311/laws.FnExactAlphaMems", spec := "fnExactAlphaMems", unfollowed := true, recurses := true, plainKeys := false, apart := false, narrowed := true }
def FnExactAlphaMemsUptoSaid : Prop := fnExactAlphaMemsUptoRow.holds Try.pinned (OpenSpec.upto fnExactAlphaMemsSpec)

/-- 'laws.FnExactCheckRules', WHERE WHAT IT READS IS OF BULK AT MOST 1048576: true; the input reads as it did. -/
def fnExactCheckRulesUptoRow : OpenClaim := { program := "ytoncacdehhmpaaa", sum := "e0afae73af3ce8840d24876376da8bd9585d189333255ea43f85be5b89f5a9e5", func := "loop.example/s01311/laws.FnExactCheckRules", spec := "fnExactCheckRules", inPlace := ["internal/bytealg.IndexByteString"], unfollowed := true, recurses := true, plainKeys := false, apart := false, narrowed := true }
def FnExactCheckRulesUptoSaid : Prop := fnExactCheckRulesUptoRow.holds Try.pinned (OpenSpec.upto fnExactCheckRulesSpec)

end Rows
end Go.Proofs.Ytoncacdehhmpaaa
