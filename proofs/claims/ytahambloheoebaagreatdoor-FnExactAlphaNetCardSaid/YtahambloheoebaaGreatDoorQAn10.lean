/- The row of the law FnExactAlphaNet: for every input the call returns true, and each argument reads behind it as it read before; no condition of ours. -/
import Derived.Test.YtahambloheoebaaGreatDoorRows
import Derived.Test.YtahambloheoebaaGreatDoorCards
import Derived.Test.YtahambloheoebaaGreatDoorTie
import Derived.LaidMore
import Derived.SevenTiedAt
import Derived.Stop.Joined
import Derived.ChangeVars
import Derived.WalkKit
import Derived.ProofKit
import Derived.OpenShut
import Derived.ShutString
import Derived.ChangeOld
import Derived.Below
import Derived.SizedLaws
import Derived.Test.YtahambloheoebaaGreatDoorQAn9
set_option linter.unusedVariables false
set_option linter.unusedSimpArgs false
namespace Go.Proofs.YtahambloheoebaaGreatDoor.fnExactAlphaNet
open Go.ChangeShapes Go.WideShapes Go.ChangeAt Go.RowKit
open Go.ChangeMaps (open_string shut_string)
open Go.Proofs.YtahambloheoebaaGreatDoor.P Go.Proofs.YtahambloheoebaaGreatDoorW.PrintWords Go.Proofs.YtahambloheoebaaGreatDoorW.PrintLast Go.Proofs.YtahambloheoebaaGreatDoorX Go.Proofs.YtahambloheoebaaGreatDoor.Pure
theorem own:ownKnob Tryz.prog.godebug=none:=by kernel_rfl
theorem laidOut:laidOutB Tryz.prog=true:=by kernel_rfl
theorem rdbValue (W:World):Rdb Tryz.prog W 183 k183 okValue:=by
 intro H enc sp fuel cs r h;obtain ⟨xs,n,_,_,hl,hxl,hf⟩:=DataW.trod_struct Tryz.underlying183 h;have e0_:cs.length=3:=hl.trans (by kernel_rfl)
 have hxl:xs.length=3:=hxl
 clear hl h;obtain ⟨a0,r0,rfl,e1_⟩:=len_s e0_;obtain ⟨a1,r1,rfl,e2_⟩:=len_s e1_;obtain ⟨a2,r2,rfl,e3_⟩:=len_s e2_;obtain rfl:=len_z e3_;have g0:DataW.trod enc Tryz.prog W 0 sp true n 3 (([a0,a1,a2].drop 0).take (Tryz.prog.cellsOf 3))=xs[0]?:=hf 0 _ rfl
 rw [show Tryz.prog.cellsOf 3=1 by kernel_rfl,List.getElem?_eq_getElem (by omega)] at g0;obtain ⟨x0,q0,o0⟩:=(rdb_i64 Tryz.underlying3) H enc sp n [a0] _ g0;have g1:DataW.trod enc Tryz.prog W 0 sp true n 2 (([a0,a1,a2].drop 1).take (Tryz.prog.cellsOf 2))=xs[1]?:=hf 1 _ rfl
 rw [show Tryz.prog.cellsOf 2=1 by kernel_rfl,List.getElem?_eq_getElem (by omega)] at g1;obtain ⟨x1,q1,o1⟩:=(rdb_i64 Tryz.underlying2) H enc sp n [a1] _ g1;have g2:DataW.trod enc Tryz.prog W 0 sp true n 9 (([a0,a1,a2].drop 2).take (Tryz.prog.cellsOf 9))=xs[2]?:=hf 2 _ rfl
 rw [show Tryz.prog.cellsOf 9=1 by kernel_rfl,List.getElem?_eq_getElem (by omega)] at g2;obtain ⟨x2,q2,o2⟩:=(rdb_string Tryz.underlying9) H enc sp n [a2] _ g2;exact ⟨⟨x0,x1,x2⟩,⟨[a0],[a1,a2],rfl,q0,⟨[a1],[a2],rfl,q1,q2⟩⟩,o0,o1,o2⟩
theorem rdbTerm (W:World):Rdb Tryz.prog W 253 k253 okTerm:=by
 intro H enc sp fuel cs r h;obtain ⟨xs,n,_,_,hl,hxl,hf⟩:=DataW.trod_struct Tryz.underlying253 h;have e0_:cs.length=6:=hl.trans (by kernel_rfl)
 have hxl:xs.length=4:=hxl
 clear hl h;obtain ⟨a0,r0,rfl,e1_⟩:=len_s e0_;obtain ⟨a1,r1,rfl,e2_⟩:=len_s e1_;obtain ⟨a2,r2,rfl,e3_⟩:=len_s e2_;obtain ⟨a3,r3,rfl,e4_⟩:=len_s e3_;obtain ⟨a4,r4,rfl,e5_⟩:=len_s e4_;obtain ⟨a5,r5,rfl,e6_⟩:=len_s e5_;obtain rfl:=len_z e6_;have g0:DataW.trod enc Tryz.prog W 0 sp true n 3 (([a0,a1,a2,a3,a4,a5].drop 0).take (Tryz.prog.cellsOf 3))=xs[0]?:=hf 0 _ rfl
 rw [show Tryz.prog.cellsOf 3=1 by kernel_rfl,List.getElem?_eq_getElem (by omega)] at g0;obtain ⟨x0,q0,o0⟩:=(rdb_i64 Tryz.underlying3) H enc sp n [a0] _ g0;have g1:DataW.trod enc Tryz.prog W 0 sp true n 3 (([a0,a1,a2,a3,a4,a5].drop 1).take (Tryz.prog.cellsOf 3))=xs[1]?:=hf 1 _ rfl
 rw [show Tryz.prog.cellsOf 3=1 by kernel_rfl,List.getElem?_eq_getElem (by omega)] at g1;obtain ⟨x1,q1,o1⟩:=(rdb_i64 Tryz.underlying3) H enc sp n [a1] _ g1;have g2:DataW.trod enc Tryz.prog W 0 sp true n 9 (([a0,a1,a2,a3,a4,a5].drop 2).take (Tryz.prog.cellsOf 9))=xs[2]?:=hf 2 _ rfl
 rw [show Tryz.prog.cellsOf 9=1 by kernel_rfl,List.getElem?_eq_getElem (by omega)] at g2;obtain ⟨x2,q2,o2⟩:=(rdb_string Tryz.underlying9) H enc sp n [a2] _ g2;have g3:DataW.trod enc Tryz.prog W 0 sp true n 183 (([a0,a1,a2,a3,a4,a5].drop 3).take (Tryz.prog.cellsOf 183))=xs[3]?:=hf 3 _ rfl
 rw [show Tryz.prog.cellsOf 183=3 by kernel_rfl,List.getElem?_eq_getElem (by omega)] at g3;obtain ⟨x3,q3,o3⟩:=(rdbValue W) H enc sp n [a3,a4,a5] _ g3;exact ⟨⟨x0,x1,x2,x3⟩,⟨[a0],[a1,a2,a3,a4,a5],rfl,q0,⟨[a1],[a2,a3,a4,a5],rfl,q1,⟨[a2],[a3,a4,a5],rfl,q2,q3⟩⟩⟩,o0,o1,o2,o3⟩
theorem rdbPattern (W:World):Rdb Tryz.prog W 181 k181 okPattern:=by
 intro H enc sp fuel cs r h;obtain ⟨xs,n,_,_,hl,hxl,hf⟩:=DataW.trod_struct Tryz.underlying181 h;have e0_:cs.length=3:=hl.trans (by kernel_rfl)
 have hxl:xs.length=3:=hxl
 clear hl h;obtain ⟨a0,r0,rfl,e1_⟩:=len_s e0_;obtain ⟨a1,r1,rfl,e2_⟩:=len_s e1_;obtain ⟨a2,r2,rfl,e3_⟩:=len_s e2_;obtain rfl:=len_z e3_;have g0:DataW.trod enc Tryz.prog W 0 sp true n 4 (([a0,a1,a2].drop 0).take (Tryz.prog.cellsOf 4))=xs[0]?:=hf 0 _ rfl
 rw [show Tryz.prog.cellsOf 4=1 by kernel_rfl,List.getElem?_eq_getElem (by omega)] at g0;obtain ⟨x0,q0,o0⟩:=(rdb_bool Tryz.underlying4) H enc sp n [a0] _ g0;have g1:DataW.trod enc Tryz.prog W 0 sp true n 9 (([a0,a1,a2].drop 1).take (Tryz.prog.cellsOf 9))=xs[1]?:=hf 1 _ rfl
 rw [show Tryz.prog.cellsOf 9=1 by kernel_rfl,List.getElem?_eq_getElem (by omega)] at g1;obtain ⟨x1,q1,o1⟩:=(rdb_string Tryz.underlying9) H enc sp n [a1] _ g1;have g2:DataW.trod enc Tryz.prog W 0 sp true n 179 (([a0,a1,a2].drop 2).take (Tryz.prog.cellsOf 179))=xs[2]?:=hf 2 _ rfl
 rw [show Tryz.prog.cellsOf 179=1 by kernel_rfl,List.getElem?_eq_getElem (by omega)] at g2;obtain ⟨x2,q2,o2⟩:=(rdb_slice Tryz.underlying179 (by kernel_rfl) (rdbTerm W)) H enc sp n [a2] _ g2;exact ⟨⟨x0,x1,x2⟩,⟨[a0],[a1,a2],rfl,q0,⟨[a1],[a2],rfl,q1,q2⟩⟩,o1,o2⟩
theorem rdbExpr (W:World):Rdb Tryz.prog W 185 k185 okExpr:=by
 intro H enc sp fuel cs r h;obtain ⟨xs,n,_,_,hl,hxl,hf⟩:=DataW.trod_struct Tryz.underlying185 h;have e0_:cs.length=8:=hl.trans (by kernel_rfl)
 have hxl:xs.length=6:=hxl
 clear hl h;obtain ⟨a0,r0,rfl,e1_⟩:=len_s e0_;obtain ⟨a1,r1,rfl,e2_⟩:=len_s e1_;obtain ⟨a2,r2,rfl,e3_⟩:=len_s e2_;obtain ⟨a3,r3,rfl,e4_⟩:=len_s e3_;obtain ⟨a4,r4,rfl,e5_⟩:=len_s e4_;obtain ⟨a5,r5,rfl,e6_⟩:=len_s e5_;obtain ⟨a6,r6,rfl,e7_⟩:=len_s e6_;obtain ⟨a7,r7,rfl,e8_⟩:=len_s e7_;obtain rfl:=len_z e8_;have g0:DataW.trod enc Tryz.prog W 0 sp true n 3 (([a0,a1,a2,a3,a4,a5,a6,a7].drop 0).take (Tryz.prog.cellsOf 3))=xs[0]?:=hf 0 _ rfl
 rw [show Tryz.prog.cellsOf 3=1 by kernel_rfl,List.getElem?_eq_getElem (by omega)] at g0;obtain ⟨x0,q0,o0⟩:=(rdb_i64 Tryz.underlying3) H enc sp n [a0] _ g0;have g1:DataW.trod enc Tryz.prog W 0 sp true n 5 (([a0,a1,a2,a3,a4,a5,a6,a7].drop 1).take (Tryz.prog.cellsOf 5))=xs[1]?:=hf 1 _ rfl
 rw [show Tryz.prog.cellsOf 5=1 by kernel_rfl,List.getElem?_eq_getElem (by omega)] at g1;obtain ⟨x1,q1,o1⟩:=(rdb_u8 Tryz.underlying5) H enc sp n [a1] _ g1;have g2:DataW.trod enc Tryz.prog W 0 sp true n 9 (([a0,a1,a2,a3,a4,a5,a6,a7].drop 2).take (Tryz.prog.cellsOf 9))=xs[2]?:=hf 2 _ rfl
 rw [show Tryz.prog.cellsOf 9=1 by kernel_rfl,List.getElem?_eq_getElem (by omega)] at g2;obtain ⟨x2,q2,o2⟩:=(rdb_string Tryz.underlying9) H enc sp n [a2] _ g2;have g3:DataW.trod enc Tryz.prog W 0 sp true n 183 (([a0,a1,a2,a3,a4,a5,a6,a7].drop 3).take (Tryz.prog.cellsOf 183))=xs[3]?:=hf 3 _ rfl
 rw [show Tryz.prog.cellsOf 183=3 by kernel_rfl,List.getElem?_eq_getElem (by omega)] at g3;obtain ⟨x3,q3,o3⟩:=(rdbValue W) H enc sp n [a3,a4,a5] _ g3;have g4:DataW.trod enc Tryz.prog W 0 sp true n 3 (([a0,a1,a2,a3,a4,a5,a6,a7].drop 6).take (Tryz.prog.cellsOf 3))=xs[4]?:=hf 4 _ rfl
 rw [show Tryz.prog.cellsOf 3=1 by kernel_rfl,List.getElem?_eq_getElem (by omega)] at g4;obtain ⟨x4,q4,o4⟩:=(rdb_i64 Tryz.underlying3) H enc sp n [a6] _ g4;have g5:DataW.trod enc Tryz.prog W 0 sp true n 3 (([a0,a1,a2,a3,a4,a5,a6,a7].drop 7).take (Tryz.prog.cellsOf 3))=xs[5]?:=hf 5 _ rfl
 rw [show Tryz.prog.cellsOf 3=1 by kernel_rfl,List.getElem?_eq_getElem (by omega)] at g5;obtain ⟨x5,q5,o5⟩:=(rdb_i64 Tryz.underlying3) H enc sp n [a7] _ g5;exact ⟨⟨x0,x1,x2,x3,x4,x5⟩,⟨[a0],[a1,a2,a3,a4,a5,a6,a7],rfl,q0,⟨[a1],[a2,a3,a4,a5,a6,a7],rfl,q1,⟨[a2],[a3,a4,a5,a6,a7],rfl,q2,⟨[a3,a4,a5],[a6,a7],rfl,q3,⟨[a6],[a7],rfl,q4,q5⟩⟩⟩⟩⟩,o0,o1,o2,o3,o4,o5⟩
theorem rdbAction (W:World):Rdb Tryz.prog W 187 k187 okAction:=by
 intro H enc sp fuel cs r h;obtain ⟨xs,n,_,_,hl,hxl,hf⟩:=DataW.trod_struct Tryz.underlying187 h;have e0_:cs.length=4:=hl.trans (by kernel_rfl)
 have hxl:xs.length=4:=hxl
 clear hl h;obtain ⟨a0,r0,rfl,e1_⟩:=len_s e0_;obtain ⟨a1,r1,rfl,e2_⟩:=len_s e1_;obtain ⟨a2,r2,rfl,e3_⟩:=len_s e2_;obtain ⟨a3,r3,rfl,e4_⟩:=len_s e3_;obtain rfl:=len_z e4_;have g0:DataW.trod enc Tryz.prog W 0 sp true n 3 (([a0,a1,a2,a3].drop 0).take (Tryz.prog.cellsOf 3))=xs[0]?:=hf 0 _ rfl
 rw [show Tryz.prog.cellsOf 3=1 by kernel_rfl,List.getElem?_eq_getElem (by omega)] at g0;obtain ⟨x0,q0,o0⟩:=(rdb_i64 Tryz.underlying3) H enc sp n [a0] _ g0;have g1:DataW.trod enc Tryz.prog W 0 sp true n 3 (([a0,a1,a2,a3].drop 1).take (Tryz.prog.cellsOf 3))=xs[1]?:=hf 1 _ rfl
 rw [show Tryz.prog.cellsOf 3=1 by kernel_rfl,List.getElem?_eq_getElem (by omega)] at g1;obtain ⟨x1,q1,o1⟩:=(rdb_i64 Tryz.underlying3) H enc sp n [a1] _ g1;have g2:DataW.trod enc Tryz.prog W 0 sp true n 9 (([a0,a1,a2,a3].drop 2).take (Tryz.prog.cellsOf 9))=xs[2]?:=hf 2 _ rfl
 rw [show Tryz.prog.cellsOf 9=1 by kernel_rfl,List.getElem?_eq_getElem (by omega)] at g2;obtain ⟨x2,q2,o2⟩:=(rdb_string Tryz.underlying9) H enc sp n [a2] _ g2;have g3:DataW.trod enc Tryz.prog W 0 sp true n 43 (([a0,a1,a2,a3].drop 3).take (Tryz.prog.cellsOf 43))=xs[3]?:=hf 3 _ rfl
 rw [show Tryz.prog.cellsOf 43=1 by kernel_rfl,List.getElem?_eq_getElem (by omega)] at g3;obtain ⟨x3,q3,o3⟩:=(rdb_slice Tryz.underlying43 (by kernel_rfl) (rdb_i64 Tryz.underlying3)) H enc sp n [a3] _ g3;exact ⟨⟨x0,x1,x2,x3⟩,⟨[a0],[a1,a2,a3],rfl,q0,⟨[a1],[a2,a3],rfl,q1,⟨[a2],[a3],rfl,q2,q3⟩⟩⟩,o0,o1,o2,o3⟩
theorem rdbRule (W:World):Rdb Tryz.prog W 94 k94 okRule:=by
 intro H enc sp fuel cs r h;obtain ⟨xs,n,_,_,hl,hxl,hf⟩:=DataW.trod_struct Tryz.underlying94 h;have e0_:cs.length=5:=hl.trans (by kernel_rfl)
 have hxl:xs.length=5:=hxl
 clear hl h;obtain ⟨a0,r0,rfl,e1_⟩:=len_s e0_;obtain ⟨a1,r1,rfl,e2_⟩:=len_s e1_;obtain ⟨a2,r2,rfl,e3_⟩:=len_s e2_;obtain ⟨a3,r3,rfl,e4_⟩:=len_s e3_;obtain ⟨a4,r4,rfl,e5_⟩:=len_s e4_;obtain rfl:=len_z e5_;have g0:DataW.trod enc Tryz.prog W 0 sp true n 9 (([a0,a1,a2,a3,a4].drop 0).take (Tryz.prog.cellsOf 9))=xs[0]?:=hf 0 _ rfl
 rw [show Tryz.prog.cellsOf 9=1 by kernel_rfl,List.getElem?_eq_getElem (by omega)] at g0;obtain ⟨x0,q0,o0⟩:=(rdb_string Tryz.underlying9) H enc sp n [a0] _ g0;have g1:DataW.trod enc Tryz.prog W 0 sp true n 2 (([a0,a1,a2,a3,a4].drop 1).take (Tryz.prog.cellsOf 2))=xs[1]?:=hf 1 _ rfl
 rw [show Tryz.prog.cellsOf 2=1 by kernel_rfl,List.getElem?_eq_getElem (by omega)] at g1;obtain ⟨x1,q1,o1⟩:=(rdb_i64 Tryz.underlying2) H enc sp n [a1] _ g1;have g2:DataW.trod enc Tryz.prog W 0 sp true n 90 (([a0,a1,a2,a3,a4].drop 2).take (Tryz.prog.cellsOf 90))=xs[2]?:=hf 2 _ rfl
 rw [show Tryz.prog.cellsOf 90=1 by kernel_rfl,List.getElem?_eq_getElem (by omega)] at g2;obtain ⟨x2,q2,o2⟩:=(rdb_slice Tryz.underlying90 (by kernel_rfl) (rdbPattern W)) H enc sp n [a2] _ g2;have g3:DataW.trod enc Tryz.prog W 0 sp true n 91 (([a0,a1,a2,a3,a4].drop 3).take (Tryz.prog.cellsOf 91))=xs[3]?:=hf 3 _ rfl
 rw [show Tryz.prog.cellsOf 91=1 by kernel_rfl,List.getElem?_eq_getElem (by omega)] at g3;obtain ⟨x3,q3,o3⟩:=(rdb_slice Tryz.underlying91 (by kernel_rfl) (rdbExpr W)) H enc sp n [a3] _ g3;have g4:DataW.trod enc Tryz.prog W 0 sp true n 92 (([a0,a1,a2,a3,a4].drop 4).take (Tryz.prog.cellsOf 92))=xs[4]?:=hf 4 _ rfl
 rw [show Tryz.prog.cellsOf 92=1 by kernel_rfl,List.getElem?_eq_getElem (by omega)] at g4;obtain ⟨x4,q4,o4⟩:=(rdb_slice Tryz.underlying92 (by kernel_rfl) (rdbAction W)) H enc sp n [a4] _ g4;exact ⟨⟨x0,x1,x2,x3,x4⟩,⟨[a0],[a1,a2,a3,a4],rfl,q0,⟨[a1],[a2,a3,a4],rfl,q1,⟨[a2],[a3,a4],rfl,q2,⟨[a3],[a4],rfl,q3,q4⟩⟩⟩⟩,o0,o1,o2,o3,o4⟩
theorem door_met (os:Os) (args:Array Value):laidMetH Tryz.prog [("math/bits.deBruijn32tab",Rows.laid_math_bits_deBruijn32tab),("math/bits.deBruijn64tab",Rows.laid_math_bits_deBruijn64tab),("internal/strconv.uint64pow10",Rows.laid_internal_strconv_uint64pow10)] ((World.doorLaid Tryz.prog 29 os).forCall (fun _ _=>0) ⟨#[],args,[]⟩).memory:=
 laidMetH_of_parts3 (fuel:=8) (laidMet_of_run' 8 (by kernel_rfl) (by kernel_rfl)) (by kernel_rfl) (by kernel_rfl)
theorem tb_of {W:World} (h:laidMetH Tryz.prog [("math/bits.deBruijn32tab",Rows.laid_math_bits_deBruijn32tab),("math/bits.deBruijn64tab",Rows.laid_math_bits_deBruijn64tab),("internal/strconv.uint64pow10",Rows.laid_internal_strconv_uint64pow10)] W):TB W:=by
 rw [MakeChecks.laidMetH_plain _ _ _ (by kernel_rfl)] at h;exact tb_of_laid h.tail.tail
set_option maxRecDepth 100000 in
theorem lifted (os:Os) (started:os.Started) (H:Type) (enc:TypeId×Value→H):
  ReturnsInHanded {} Tryz.checked os 5 .any (fun w args=>(Rows.fnExactAlphaNetSpec.pre enc Tryz.prog Tryz.f5 Rows.fnExactAlphaNetRow.domain false w args∧laidMetH Tryz.prog [("math/bits.deBruijn32tab",Rows.laid_math_bits_deBruijn32tab),("math/bits.deBruijn64tab",Rows.laid_math_bits_deBruijn64tab),("internal/strconv.uint64pow10",Rows.laid_internal_strconv_uint64pow10)] w)∧sizedMet enc Tryz.prog Tryz.f5 (OpenSpec.ofChange Rows.fnExactAlphaNetSpec) false w args) (Rows.fnExactAlphaNetSpec.post enc Tryz.prog Tryz.f5 false true false false):=by
 refine returnsInHanded_of_change_and (C:=Tryz.checked) (X:=fun w _=>laidMetH Tryz.prog [("math/bits.deBruijn32tab",Rows.laid_math_bits_deBruijn32tab),("math/bits.deBruijn64tab",Rows.laid_math_bits_deBruijn64tab),("internal/strconv.uint64pow10",Rows.laid_internal_strconv_uint64pow10)] w) (fun _ _ _ hh h=>h.of_heap hh) own started (by kernel_rfl) Tryz.func5
  (ChangeSpec.witness_shaped (enc:=enc) (C:=Tryz.checked) (os:=os) (X:=fun w _=>laidMetH Tryz.prog [("math/bits.deBruijn32tab",Rows.laid_math_bits_deBruijn32tab),("math/bits.deBruijn64tab",Rows.laid_math_bits_deBruijn64tab),("internal/strconv.uint64pow10",Rows.laid_internal_strconv_uint64pow10)] w) false (World.doorLaid Tryz.prog 29 os) #[.slice none 0 0] 8 rfl (World.shaped_of_RefB (by kernel_rfl) (by kernel_rfl)) (by kernel_rfl) (by kernel_rfl) (by kernel_rfl) (door_met os _)) ?_
 intro W base args ds gs before hval0 hW hcnd hsz0 hL _;have hval:∀(j:Nat) t v,Tryz.f5.params[j]?=some t→args[j]?=some v→Value.okWide Tryz.prog W .any base t v:=hval0
 have hW':=hW;obtain ⟨p,q,hA0,hV,rfl,hfz,hnd⟩:=hW;have hA:DataW.TrodAll enc Tryz.prog W 0 (fun _=>true) true Tryz.f5.params.toList args.toList ds p:=hA0
 rw [Tryz.params5] at hA hval;obtain ⟨v0,vs0,d0,ds0,p0,q0,hargs,rfl,rfl,h0,r0⟩:=trodAll_cons hA;obtain ⟨rfl,rfl,rfl⟩:=trodAll_nil r0;obtain rfl:args=#[v0]:=by cases args;simp_all
 obtain ⟨rfl,rfl⟩:=trodVars_none hV;obtain ⟨a0,len0,cap0,rfl⟩:=okWide_slice Tryz.underlying57 (hval 0 57 v0 rfl rfl);have k0:=h0;have lt0:∀x∈p0,x.block<W.heap.size:=by obtain ⟨m,hm⟩:=k0;exact DataW.trod_lt m _ _ _ hm
 obtain ⟨fu0,hf0⟩:=h0;obtain ⟨x0,⟨A0,c0,he0,hc0,hr0⟩,ok0⟩:=(rdb_slice Tryz.underlying57 (by kernel_rfl) (rdbRule W)) H enc _ fu0 _ _ hf0;obtain ⟨rfl,rfl,rfl⟩:a0=A0∧len0=x0.length∧cap0=c0:=by simpa [Value.cells] using he0
 clear hA0 hval0 hsz0;obtain ⟨k,h⟩:=Pure.FnExactAlphaNet x0 ok0;refine (wi_.calls k _ _ _ true W hr0 hc0 h (tb_of hL)).mono fun e W' ⟨he,bel'⟩=>?_
 have bel:=bel';subst he;exact ⟨_,rfl,_,_,_,[],_,[],hW',trodAll_mk1 (shut_bool Tryz.underlying4 _),(trodAll_cons_mk (Below.trod laidOut (by kernel_rfl) (of_decide_eq_true (by kernel_rfl)) k0 bel lt0) trodAll_mk0),rfl,bel.frame _,fun h=>by cases h⟩
theorem over:Rows.fnExactAlphaNetRow.holds Tryz.pinned (OpenSpec.ofChange Rows.fnExactAlphaNetSpec):=
 OpenClaim.holds_of_wide 5 Tryz.f5 rfl rfl rfl rfl rfl rfl rfl ⟨rfl,rfl,rfl,rfl,rfl⟩ rfl rfl rfl rfl rfl (by kernel_rfl) Tryz.func5 (by kernel_rfl)
  (of_decide_eq_true (by kernel_rfl)) (by unfold Func.isWrapper;first|(rw [if_pos (by decide +kernel)];kernel_rfl)|(rw [if_neg (by decide +kernel)];exact ⟨rfl,rfl⟩))
  (fun os started H enc _=>lifted os started H enc)
theorem card:Rows.FnExactAlphaNetCardSaid:=
 Claim7.holds_tied_plain_at .later [] [.data,.data,.data] true (true,"0130f3ea755f04c43d671d9178e5035e8d9c4fbca7effa6e4e87807cbcaac2b5") false over (fun _ h=>by cases h) (by kernel_rfl) (fun _ h=>by cases h) fnExactAlphaNet_row_tie rfl ⟨rfl,rfl⟩ (by kernel_rfl) rfl
  (fun f fn hf hfn=>by
   obtain rfl:f=5:=Option.some.inj ((show Tryz.prog.funcNamed "loop.example/s01311/laws.FnExactAlphaNet" = some 5 by kernel_rfl).symm.trans hf) |>.symm
   obtain rfl:fn=Tryz.f5:=(Option.some.inj (Tryz.func5.symm.trans hfn)).symm
   exact ⟨by kernel_rfl,fun j t ht=>by
    rw [Tryz.params5] at ht;have hm:t∈[57]:=by simpa using Array.mem_of_getElem? ht
    have hall:([57].all fun u=>!Tryz.prog.wantsStandIn u)=true:=by kernel_rfl
    exact (show Tryz.prog.wantsStandIn t=false by simpa using List.all_eq_true.1 hall t hm)⟩)
  (by kernel_rfl)
end Go.Proofs.YtahambloheoebaaGreatDoor.fnExactAlphaNet
namespace Go.Proofs.YtahambloheoebaaGreatDoor
theorem fnExactAlphaNet_holds:Rows.FnExactAlphaNetCardSaid:=fnExactAlphaNet.card
end Go.Proofs.YtahambloheoebaaGreatDoor
