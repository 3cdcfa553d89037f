/- The row of the law FnExactAgenda: for every input the call returns true, and each argument reads behind it as it read before; no condition of ours. -/
import Derived.Test.YtejjlkbbnhpbdaaGreatRows
import Derived.WalkKit
import Derived.ProofKit
import Derived.OpenShut
import Derived.ShutString
import Derived.ChangeOld
import Derived.Below
import Derived.SizedLaws
import Derived.Test.YtejjlkbbnhpbdaaGreatQAg8
namespace Go.Proofs.YtejjlkbbnhpbdaaGreat.fnExactAgenda
open Go.ChangeShapes Go.WideShapes Go.ChangeAt Go.RowKit
open Go.ChangeMaps (open_string shut_string)
open Go.Proofs.YtejjlkbbnhpbdaaGreat.P Go.Proofs.YtejjlkbbnhpbdaaGreatW.PrintWords Go.Proofs.YtejjlkbbnhpbdaaGreatW.PrintLast Go.Proofs.YtejjlkbbnhpbdaaGreatX Go.Proofs.YtejjlkbbnhpbdaaGreat.Pure
set_option linter.unusedVariables false
set_option linter.unusedSimpArgs false
theorem own:ownKnob Tryz.prog.godebug=none:=by kernel_rfl
theorem laidOut:laidOutB Tryz.prog=true:=by kernel_rfl
theorem rdbValue (W:World):Rdb Tryz.prog W 114 k114 okValue:=by
 intro H enc sp fuel cs r h;obtain ⟨xs,n,_,_,hl,hxl,hf⟩:=DataW.trod_struct Tryz.underlying114 h;have e0_:cs.length=3:=hl.trans (by kernel_rfl)
 have hxl:xs.length=3:=hxl
 clear hl h;obtain ⟨a0,r0,rfl,e1_⟩:=len_s e0_;obtain ⟨a1,r1,rfl,e2_⟩:=len_s e1_;obtain ⟨a2,r2,rfl,e3_⟩:=len_s e2_;obtain rfl:=len_z e3_;have g0:DataW.trod enc Tryz.prog W 0 sp true n 3 (([a0,a1,a2].drop 0).take (Tryz.prog.cellsOf 3))=xs[0]?:=hf 0 _ rfl
 rw [show Tryz.prog.cellsOf 3=1 by kernel_rfl,List.getElem?_eq_getElem (by omega)] at g0;obtain ⟨x0,q0,o0⟩:=(rdb_i64 Tryz.underlying3) H enc sp n [a0] _ g0;have g1:DataW.trod enc Tryz.prog W 0 sp true n 2 (([a0,a1,a2].drop 1).take (Tryz.prog.cellsOf 2))=xs[1]?:=hf 1 _ rfl
 rw [show Tryz.prog.cellsOf 2=1 by kernel_rfl,List.getElem?_eq_getElem (by omega)] at g1;obtain ⟨x1,q1,o1⟩:=(rdb_i64 Tryz.underlying2) H enc sp n [a1] _ g1;have g2:DataW.trod enc Tryz.prog W 0 sp true n 9 (([a0,a1,a2].drop 2).take (Tryz.prog.cellsOf 9))=xs[2]?:=hf 2 _ rfl
 rw [show Tryz.prog.cellsOf 9=1 by kernel_rfl,List.getElem?_eq_getElem (by omega)] at g2;obtain ⟨x2,q2,o2⟩:=(rdb_string Tryz.underlying9) H enc sp n [a2] _ g2;exact ⟨⟨x0,x1,x2⟩,⟨[a0],[a1,a2],rfl,q0,⟨[a1],[a2],rfl,q1,q2⟩⟩,o0,o1,o2⟩
theorem rdbTerm (W:World):Rdb Tryz.prog W 160 k160 okTerm:=by
 intro H enc sp fuel cs r h;obtain ⟨xs,n,_,_,hl,hxl,hf⟩:=DataW.trod_struct Tryz.underlying160 h;have e0_:cs.length=6:=hl.trans (by kernel_rfl)
 have hxl:xs.length=4:=hxl
 clear hl h;obtain ⟨a0,r0,rfl,e1_⟩:=len_s e0_;obtain ⟨a1,r1,rfl,e2_⟩:=len_s e1_;obtain ⟨a2,r2,rfl,e3_⟩:=len_s e2_;obtain ⟨a3,r3,rfl,e4_⟩:=len_s e3_;obtain ⟨a4,r4,rfl,e5_⟩:=len_s e4_;obtain ⟨a5,r5,rfl,e6_⟩:=len_s e5_;obtain rfl:=len_z e6_;have g0:DataW.trod enc Tryz.prog W 0 sp true n 3 (([a0,a1,a2,a3,a4,a5].drop 0).take (Tryz.prog.cellsOf 3))=xs[0]?:=hf 0 _ rfl
 rw [show Tryz.prog.cellsOf 3=1 by kernel_rfl,List.getElem?_eq_getElem (by omega)] at g0;obtain ⟨x0,q0,o0⟩:=(rdb_i64 Tryz.underlying3) H enc sp n [a0] _ g0;have g1:DataW.trod enc Tryz.prog W 0 sp true n 3 (([a0,a1,a2,a3,a4,a5].drop 1).take (Tryz.prog.cellsOf 3))=xs[1]?:=hf 1 _ rfl
 rw [show Tryz.prog.cellsOf 3=1 by kernel_rfl,List.getElem?_eq_getElem (by omega)] at g1;obtain ⟨x1,q1,o1⟩:=(rdb_i64 Tryz.underlying3) H enc sp n [a1] _ g1;have g2:DataW.trod enc Tryz.prog W 0 sp true n 9 (([a0,a1,a2,a3,a4,a5].drop 2).take (Tryz.prog.cellsOf 9))=xs[2]?:=hf 2 _ rfl
 rw [show Tryz.prog.cellsOf 9=1 by kernel_rfl,List.getElem?_eq_getElem (by omega)] at g2;obtain ⟨x2,q2,o2⟩:=(rdb_string Tryz.underlying9) H enc sp n [a2] _ g2;have g3:DataW.trod enc Tryz.prog W 0 sp true n 114 (([a0,a1,a2,a3,a4,a5].drop 3).take (Tryz.prog.cellsOf 114))=xs[3]?:=hf 3 _ rfl
 rw [show Tryz.prog.cellsOf 114=3 by kernel_rfl,List.getElem?_eq_getElem (by omega)] at g3;obtain ⟨x3,q3,o3⟩:=(rdbValue W) H enc sp n [a3,a4,a5] _ g3;exact ⟨⟨x0,x1,x2,x3⟩,⟨[a0],[a1,a2,a3,a4,a5],rfl,q0,⟨[a1],[a2,a3,a4,a5],rfl,q1,⟨[a2],[a3,a4,a5],rfl,q2,q3⟩⟩⟩,o0,o1,o2,o3⟩
theorem rdbPattern (W:World):Rdb Tryz.prog W 112 k112 okPattern:=by
 intro H enc sp fuel cs r h;obtain ⟨xs,n,_,_,hl,hxl,hf⟩:=DataW.trod_struct Tryz.underlying112 h;have e0_:cs.length=3:=hl.trans (by kernel_rfl)
 have hxl:xs.length=3:=hxl
 clear hl h;obtain ⟨a0,r0,rfl,e1_⟩:=len_s e0_;obtain ⟨a1,r1,rfl,e2_⟩:=len_s e1_;obtain ⟨a2,r2,rfl,e3_⟩:=len_s e2_;obtain rfl:=len_z e3_;have g0:DataW.trod enc Tryz.prog W 0 sp true n 4 (([a0,a1,a2].drop 0).take (Tryz.prog.cellsOf 4))=xs[0]?:=hf 0 _ rfl
 rw [show Tryz.prog.cellsOf 4=1 by kernel_rfl,List.getElem?_eq_getElem (by omega)] at g0;obtain ⟨x0,q0,o0⟩:=(rdb_bool Tryz.underlying4) H enc sp n [a0] _ g0;have g1:DataW.trod enc Tryz.prog W 0 sp true n 9 (([a0,a1,a2].drop 1).take (Tryz.prog.cellsOf 9))=xs[1]?:=hf 1 _ rfl
 rw [show Tryz.prog.cellsOf 9=1 by kernel_rfl,List.getElem?_eq_getElem (by omega)] at g1;obtain ⟨x1,q1,o1⟩:=(rdb_string Tryz.underlying9) H enc sp n [a1] _ g1;have g2:DataW.trod enc Tryz.prog W 0 sp true n 110 (([a0,a1,a2].drop 2).take (Tryz.prog.cellsOf 110))=xs[2]?:=hf 2 _ rfl
 rw [show Tryz.prog.cellsOf 110=1 by kernel_rfl,List.getElem?_eq_getElem (by omega)] at g2;obtain ⟨x2,q2,o2⟩:=(rdb_slice Tryz.underlying110 (by kernel_rfl) (rdbTerm W)) H enc sp n [a2] _ g2;exact ⟨⟨x0,x1,x2⟩,⟨[a0],[a1,a2],rfl,q0,⟨[a1],[a2],rfl,q1,q2⟩⟩,o1,o2⟩
theorem rdbExpr (W:World):Rdb Tryz.prog W 116 k116 okExpr:=by
 intro H enc sp fuel cs r h;obtain ⟨xs,n,_,_,hl,hxl,hf⟩:=DataW.trod_struct Tryz.underlying116 h;have e0_:cs.length=8:=hl.trans (by kernel_rfl)
 have hxl:xs.length=6:=hxl
 clear hl h;obtain ⟨a0,r0,rfl,e1_⟩:=len_s e0_;obtain ⟨a1,r1,rfl,e2_⟩:=len_s e1_;obtain ⟨a2,r2,rfl,e3_⟩:=len_s e2_;obtain ⟨a3,r3,rfl,e4_⟩:=len_s e3_;obtain ⟨a4,r4,rfl,e5_⟩:=len_s e4_;obtain ⟨a5,r5,rfl,e6_⟩:=len_s e5_;obtain ⟨a6,r6,rfl,e7_⟩:=len_s e6_;obtain ⟨a7,r7,rfl,e8_⟩:=len_s e7_;obtain rfl:=len_z e8_;have g0:DataW.trod enc Tryz.prog W 0 sp true n 3 (([a0,a1,a2,a3,a4,a5,a6,a7].drop 0).take (Tryz.prog.cellsOf 3))=xs[0]?:=hf 0 _ rfl
 rw [show Tryz.prog.cellsOf 3=1 by kernel_rfl,List.getElem?_eq_getElem (by omega)] at g0;obtain ⟨x0,q0,o0⟩:=(rdb_i64 Tryz.underlying3) H enc sp n [a0] _ g0;have g1:DataW.trod enc Tryz.prog W 0 sp true n 5 (([a0,a1,a2,a3,a4,a5,a6,a7].drop 1).take (Tryz.prog.cellsOf 5))=xs[1]?:=hf 1 _ rfl
 rw [show Tryz.prog.cellsOf 5=1 by kernel_rfl,List.getElem?_eq_getElem (by omega)] at g1;obtain ⟨x1,q1,o1⟩:=(rdb_u8 Tryz.underlying5) H enc sp n [a1] _ g1;have g2:DataW.trod enc Tryz.prog W 0 sp true n 9 (([a0,a1,a2,a3,a4,a5,a6,a7].drop 2).take (Tryz.prog.cellsOf 9))=xs[2]?:=hf 2 _ rfl
 rw [show Tryz.prog.cellsOf 9=1 by kernel_rfl,List.getElem?_eq_getElem (by omega)] at g2;obtain ⟨x2,q2,o2⟩:=(rdb_string Tryz.underlying9) H enc sp n [a2] _ g2;have g3:DataW.trod enc Tryz.prog W 0 sp true n 114 (([a0,a1,a2,a3,a4,a5,a6,a7].drop 3).take (Tryz.prog.cellsOf 114))=xs[3]?:=hf 3 _ rfl
 rw [show Tryz.prog.cellsOf 114=3 by kernel_rfl,List.getElem?_eq_getElem (by omega)] at g3;obtain ⟨x3,q3,o3⟩:=(rdbValue W) H enc sp n [a3,a4,a5] _ g3;have g4:DataW.trod enc Tryz.prog W 0 sp true n 3 (([a0,a1,a2,a3,a4,a5,a6,a7].drop 6).take (Tryz.prog.cellsOf 3))=xs[4]?:=hf 4 _ rfl
 rw [show Tryz.prog.cellsOf 3=1 by kernel_rfl,List.getElem?_eq_getElem (by omega)] at g4;obtain ⟨x4,q4,o4⟩:=(rdb_i64 Tryz.underlying3) H enc sp n [a6] _ g4;have g5:DataW.trod enc Tryz.prog W 0 sp true n 3 (([a0,a1,a2,a3,a4,a5,a6,a7].drop 7).take (Tryz.prog.cellsOf 3))=xs[5]?:=hf 5 _ rfl
 rw [show Tryz.prog.cellsOf 3=1 by kernel_rfl,List.getElem?_eq_getElem (by omega)] at g5;obtain ⟨x5,q5,o5⟩:=(rdb_i64 Tryz.underlying3) H enc sp n [a7] _ g5;exact ⟨⟨x0,x1,x2,x3,x4,x5⟩,⟨[a0],[a1,a2,a3,a4,a5,a6,a7],rfl,q0,⟨[a1],[a2,a3,a4,a5,a6,a7],rfl,q1,⟨[a2],[a3,a4,a5,a6,a7],rfl,q2,⟨[a3,a4,a5],[a6,a7],rfl,q3,⟨[a6],[a7],rfl,q4,q5⟩⟩⟩⟩⟩,o0,o1,o2,o3,o4,o5⟩
theorem rdbAction (W:World):Rdb Tryz.prog W 118 k118 okAction:=by
 intro H enc sp fuel cs r h;obtain ⟨xs,n,_,_,hl,hxl,hf⟩:=DataW.trod_struct Tryz.underlying118 h;have e0_:cs.length=4:=hl.trans (by kernel_rfl)
 have hxl:xs.length=4:=hxl
 clear hl h;obtain ⟨a0,r0,rfl,e1_⟩:=len_s e0_;obtain ⟨a1,r1,rfl,e2_⟩:=len_s e1_;obtain ⟨a2,r2,rfl,e3_⟩:=len_s e2_;obtain ⟨a3,r3,rfl,e4_⟩:=len_s e3_;obtain rfl:=len_z e4_;have g0:DataW.trod enc Tryz.prog W 0 sp true n 3 (([a0,a1,a2,a3].drop 0).take (Tryz.prog.cellsOf 3))=xs[0]?:=hf 0 _ rfl
 rw [show Tryz.prog.cellsOf 3=1 by kernel_rfl,List.getElem?_eq_getElem (by omega)] at g0;obtain ⟨x0,q0,o0⟩:=(rdb_i64 Tryz.underlying3) H enc sp n [a0] _ g0;have g1:DataW.trod enc Tryz.prog W 0 sp true n 3 (([a0,a1,a2,a3].drop 1).take (Tryz.prog.cellsOf 3))=xs[1]?:=hf 1 _ rfl
 rw [show Tryz.prog.cellsOf 3=1 by kernel_rfl,List.getElem?_eq_getElem (by omega)] at g1;obtain ⟨x1,q1,o1⟩:=(rdb_i64 Tryz.underlying3) H enc sp n [a1] _ g1;have g2:DataW.trod enc Tryz.prog W 0 sp true n 9 (([a0,a1,a2,a3].drop 2).take (Tryz.prog.cellsOf 9))=xs[2]?:=hf 2 _ rfl
 rw [show Tryz.prog.cellsOf 9=1 by kernel_rfl,List.getElem?_eq_getElem (by omega)] at g2;obtain ⟨x2,q2,o2⟩:=(rdb_string Tryz.underlying9) H enc sp n [a2] _ g2;have g3:DataW.trod enc Tryz.prog W 0 sp true n 23 (([a0,a1,a2,a3].drop 3).take (Tryz.prog.cellsOf 23))=xs[3]?:=hf 3 _ rfl
 rw [show Tryz.prog.cellsOf 23=1 by kernel_rfl,List.getElem?_eq_getElem (by omega)] at g3;obtain ⟨x3,q3,o3⟩:=(rdb_slice Tryz.underlying23 (by kernel_rfl) (rdb_i64 Tryz.underlying3)) H enc sp n [a3] _ g3;exact ⟨⟨x0,x1,x2,x3⟩,⟨[a0],[a1,a2,a3],rfl,q0,⟨[a1],[a2,a3],rfl,q1,⟨[a2],[a3],rfl,q2,q3⟩⟩⟩,o0,o1,o2,o3⟩
theorem rdbRule (W:World):Rdb Tryz.prog W 50 k50 okRule:=by
 intro H enc sp fuel cs r h;obtain ⟨xs,n,_,_,hl,hxl,hf⟩:=DataW.trod_struct Tryz.underlying50 h;have e0_:cs.length=5:=hl.trans (by kernel_rfl)
 have hxl:xs.length=5:=hxl
 clear hl h;obtain ⟨a0,r0,rfl,e1_⟩:=len_s e0_;obtain ⟨a1,r1,rfl,e2_⟩:=len_s e1_;obtain ⟨a2,r2,rfl,e3_⟩:=len_s e2_;obtain ⟨a3,r3,rfl,e4_⟩:=len_s e3_;obtain ⟨a4,r4,rfl,e5_⟩:=len_s e4_;obtain rfl:=len_z e5_;have g0:DataW.trod enc Tryz.prog W 0 sp true n 9 (([a0,a1,a2,a3,a4].drop 0).take (Tryz.prog.cellsOf 9))=xs[0]?:=hf 0 _ rfl
 rw [show Tryz.prog.cellsOf 9=1 by kernel_rfl,List.getElem?_eq_getElem (by omega)] at g0;obtain ⟨x0,q0,o0⟩:=(rdb_string Tryz.underlying9) H enc sp n [a0] _ g0;have g1:DataW.trod enc Tryz.prog W 0 sp true n 2 (([a0,a1,a2,a3,a4].drop 1).take (Tryz.prog.cellsOf 2))=xs[1]?:=hf 1 _ rfl
 rw [show Tryz.prog.cellsOf 2=1 by kernel_rfl,List.getElem?_eq_getElem (by omega)] at g1;obtain ⟨x1,q1,o1⟩:=(rdb_i64 Tryz.underlying2) H enc sp n [a1] _ g1;have g2:DataW.trod enc Tryz.prog W 0 sp true n 46 (([a0,a1,a2,a3,a4].drop 2).take (Tryz.prog.cellsOf 46))=xs[2]?:=hf 2 _ rfl
 rw [show Tryz.prog.cellsOf 46=1 by kernel_rfl,List.getElem?_eq_getElem (by omega)] at g2;obtain ⟨x2,q2,o2⟩:=(rdb_slice Tryz.underlying46 (by kernel_rfl) (rdbPattern W)) H enc sp n [a2] _ g2;have g3:DataW.trod enc Tryz.prog W 0 sp true n 47 (([a0,a1,a2,a3,a4].drop 3).take (Tryz.prog.cellsOf 47))=xs[3]?:=hf 3 _ rfl
 rw [show Tryz.prog.cellsOf 47=1 by kernel_rfl,List.getElem?_eq_getElem (by omega)] at g3;obtain ⟨x3,q3,o3⟩:=(rdb_slice Tryz.underlying47 (by kernel_rfl) (rdbExpr W)) H enc sp n [a3] _ g3;have g4:DataW.trod enc Tryz.prog W 0 sp true n 48 (([a0,a1,a2,a3,a4].drop 4).take (Tryz.prog.cellsOf 48))=xs[4]?:=hf 4 _ rfl
 rw [show Tryz.prog.cellsOf 48=1 by kernel_rfl,List.getElem?_eq_getElem (by omega)] at g4;obtain ⟨x4,q4,o4⟩:=(rdb_slice Tryz.underlying48 (by kernel_rfl) (rdbAction W)) H enc sp n [a4] _ g4;exact ⟨⟨x0,x1,x2,x3,x4⟩,⟨[a0],[a1,a2,a3,a4],rfl,q0,⟨[a1],[a2,a3,a4],rfl,q1,⟨[a2],[a3,a4],rfl,q2,⟨[a3],[a4],rfl,q3,q4⟩⟩⟩⟩,o0,o1,o2,o3,o4⟩
theorem rdbInst (W:World):Rdb Tryz.prog W 25 k25 okInst:=by
 intro H enc sp fuel cs r h;obtain ⟨xs,n,_,_,hl,hxl,hf⟩:=DataW.trod_struct Tryz.underlying25 h;have e0_:cs.length=2:=hl.trans (by kernel_rfl)
 have hxl:xs.length=2:=hxl
 clear hl h;obtain ⟨a0,r0,rfl,e1_⟩:=len_s e0_;obtain ⟨a1,r1,rfl,e2_⟩:=len_s e1_;obtain rfl:=len_z e2_;have g0:DataW.trod enc Tryz.prog W 0 sp true n 3 (([a0,a1].drop 0).take (Tryz.prog.cellsOf 3))=xs[0]?:=hf 0 _ rfl
 rw [show Tryz.prog.cellsOf 3=1 by kernel_rfl,List.getElem?_eq_getElem (by omega)] at g0;obtain ⟨x0,q0,o0⟩:=(rdb_i64 Tryz.underlying3) H enc sp n [a0] _ g0;have g1:DataW.trod enc Tryz.prog W 0 sp true n 23 (([a0,a1].drop 1).take (Tryz.prog.cellsOf 23))=xs[1]?:=hf 1 _ rfl
 rw [show Tryz.prog.cellsOf 23=1 by kernel_rfl,List.getElem?_eq_getElem (by omega)] at g1;obtain ⟨x1,q1,o1⟩:=(rdb_slice Tryz.underlying23 (by kernel_rfl) (rdb_i64 Tryz.underlying3)) H enc sp n [a1] _ g1;exact ⟨⟨x0,x1⟩,⟨[a0],[a1],rfl,q0,q1⟩,o0,o1⟩
set_option maxRecDepth 100000 in
theorem lifted (os:Os) (started:os.Started) (H:Type) (enc:TypeId×Value→H):
  ReturnsInHanded {} Tryz.checked os 4 .any (Rows.fnExactAgendaSpec.pre6 enc Tryz.prog Tryz.f4 Rows.fnExactAgendaRow.domain false) (Rows.fnExactAgendaSpec.post enc Tryz.prog Tryz.f4 false true false false):=by
 refine returnsInHanded_of_change_sized (C:=Tryz.checked) own started (by kernel_rfl) Tryz.func4
  (ChangeSpec.witness6 (enc:=enc) (C:=Tryz.checked) false ⟨#[],#[.slice none 0 0,.slice none 0 0],[]⟩ 8 (by kernel_rfl) (by kernel_rfl) (by kernel_rfl) (by kernel_rfl)) ?_
 intro W base args ds gs before hval0 hW hcnd hsz0 _;have hval:∀(j:Nat) t v,Tryz.f4.params[j]?=some t→args[j]?=some v→Value.okWide Tryz.prog W .any base t v:=hval0
 have hW':=hW;obtain ⟨p,q,hA0,hV,rfl,hfz,hnd⟩:=hW;have hA:DataW.TrodAll enc Tryz.prog W 0 (fun _=>true) true Tryz.f4.params.toList args.toList ds p:=hA0
 rw [Tryz.params4] at hA hval;obtain ⟨v0,vs0,d0,ds0,p0,q0,hargs,rfl,rfl,h0,r0⟩:=trodAll_cons hA;obtain ⟨v1,vs1,d1,ds1,p1,q1,rfl,rfl,rfl,h1,r1⟩:=trodAll_cons r0;obtain ⟨rfl,rfl,rfl⟩:=trodAll_nil r1;obtain rfl:args=#[v0,v1]:=by cases args;simp_all
 obtain ⟨rfl,rfl⟩:=trodVars_none hV;obtain ⟨a0,len0,cap0,rfl⟩:=okWide_slice Tryz.underlying22 (hval 0 22 v0 rfl rfl);have k0:=h0;have lt0:∀x∈p0,x.block<W.heap.size:=by obtain ⟨m,hm⟩:=k0;exact DataW.trod_lt m _ _ _ hm
 obtain ⟨fu0,hf0⟩:=h0;obtain ⟨x0,⟨A0,c0,he0,hc0,hr0⟩,ok0⟩:=(rdb_slice Tryz.underlying22 (by kernel_rfl) (rdbRule W)) H enc _ fu0 _ _ hf0;obtain ⟨rfl,rfl,rfl⟩:a0=A0∧len0=x0.length∧cap0=c0:=by simpa [Value.cells] using he0
 obtain ⟨a1,len1,cap1,rfl⟩:=okWide_slice Tryz.underlying36 (hval 1 36 v1 rfl rfl);have k1:=h1;have lt1:∀x∈p1,x.block<W.heap.size:=by obtain ⟨m,hm⟩:=k1;exact DataW.trod_lt m _ _ _ hm
 obtain ⟨fu1,hf1⟩:=h1;obtain ⟨x1,⟨A1,c1,he1,hc1,hr1⟩,ok1⟩:=(rdb_slice Tryz.underlying36 (by kernel_rfl) (rdbInst W)) H enc _ fu1 _ _ hf1;obtain ⟨rfl,rfl,rfl⟩:a1=A1∧len1=x1.length∧cap1=c1:=by simpa [Value.cells] using he1
 clear hA0 hval0 hsz0;obtain ⟨k,h⟩:=Pure.FnExactAgenda x0 x1 ok0 ok1;refine (laws_FnExactAgenda.calls k _ _ _ _ _ _ true W hr0 hc0 hr1 hc1 h).mono fun e W' ⟨he,bel'⟩=>?_
 have bel:=bel';subst he;exact ⟨_,rfl,_,_,_,[],_,[],hW',trodAll_mk1 (shut_bool Tryz.underlying4 _),(trodAll_cons_mk (Below.trod laidOut (by kernel_rfl) (of_decide_eq_true (by kernel_rfl)) k0 bel lt0) (trodAll_cons_mk (Below.trod laidOut (by kernel_rfl) (of_decide_eq_true (by kernel_rfl)) k1 bel lt1) trodAll_mk0)),rfl,bel.frame _,fun h=>by cases h⟩
theorem over:Rows.fnExactAgendaRow.holds Tryz.pinned (OpenSpec.ofChange Rows.fnExactAgendaSpec):=
 OpenClaim.holds_of_wide 4 Tryz.f4 rfl rfl rfl rfl rfl rfl rfl ⟨rfl,rfl,rfl,rfl,rfl⟩ rfl rfl rfl rfl rfl (by kernel_rfl) Tryz.func4 (by kernel_rfl)
  (of_decide_eq_true (by kernel_rfl)) (by unfold Func.isWrapper;first|(rw [if_pos (by decide +kernel)];kernel_rfl)|(rw [if_neg (by decide +kernel)];exact ⟨rfl,rfl⟩))
  (fun os started H enc _=>lifted os started H enc)
theorem proved:Rows.FnExactAgendaSaid:=over
end Go.Proofs.YtejjlkbbnhpbdaaGreat.fnExactAgenda
namespace Go.Proofs.YtejjlkbbnhpbdaaGreat
theorem fnExactAgenda_holds:Rows.FnExactAgendaSaid:=fnExactAgenda.proved
end Go.Proofs.YtejjlkbbnhpbdaaGreat
