/- The row of the law FnExactAlphaNet: for every input the call returns true, and each argument reads behind it as it read before; no condition of ours. -/
import Derived.Test.YtahambloheoebaaGreatDoorProg
import Derived.Below
import Derived.WalkKit
import Derived.OwnWalk
import Derived.Deep.LoopGhost
import Derived.RowKit3
import Derived.Shelf.Abstract
import Derived.Shelf.Strings.Builder1
import Derived.Shelf.Strings.Builder2
import Derived.Shelf.Strings.OnBuilder
import Derived.Shelf.Small.Strs
import Derived.Shelf.Strings.BuilderF
import Derived.Shelf.Strings.BuilderK
import Derived.Shelf.Strings.Builder2Cap
import Derived.Shelf.Strconv.Itoa0
import Derived.Shelf.Strconv.Itoa1
import Derived.Shelf.LaysM
import Derived.Shelf.Strconv.Itoa2
import Derived.Shelf.Strconv.Itoa3
import Derived.Shelf.Strconv.Itoa4
import Derived.Shelf.Strings.Search1
import Derived.Shelf.Strings.BuilderCap
import Derived.Lib.LaidTab
import Derived.Lib.ItoaNum
import Derived.Lib.ItoaLen
import Derived.Lib.AppendIntMem
import Derived.Test.YtahambloheoebaaGreatDoorRows
import Derived.LaidLaws
import Derived.ChangeVars
import Derived.ChangeArms
import Derived.Carry
import Derived.Stop.LaidErr
import Derived.Test.YtahambloheoebaaGreatDoorQAn1
set_option linter.unusedVariables false
set_option linter.unusedSimpArgs false
namespace Go.Proofs.YtahambloheoebaaGreatDoorX
open Go.RowKit Go.Proofs.YtahambloheoebaaGreatDoorW.PrintWords
def bigN:Nat:=4611686018427387903
theorem le_of_bigN {n:Nat} (h:n≤bigN):n≤4611686018427387903:=h
def PredB (P:Program) (g:Nat) (lb:Array Value) {α : Type} (enc : α→Value) (p : α→Bool) (xs:List α) (w:World):Prop:=
 ∀(W:World) (x : α),x∈xs→Below w.heap.size w W→Calls P g (#[enc x]++lb) W fun e w'=>e=.returned (.bool (p x))∧Below W.heap.size W w'
def idxB {α : Type} (p : α→Bool):List α→Int
 | []=>-1
 | x::xs=>if p x then 0 else (if idxB p xs<0 then -1 else idxB p xs+1)
theorem idxB_neg {α : Type} (p : α→Bool) (xs:List α):idxB p xs=-1∨0≤idxB p xs:=by
 induction xs with
 | nil=>exact .inl rfl
 | cons x xs ih=>
  simp only [idxB];split
  ·exact .inr (by omega)
  ·split
   ·exact .inl rfl
   ·exact .inr (by omega)
theorem idxB_miss {α : Type} (p : α→Bool) (xs:List α) (h:∀x,x∈xs→p x=false):idxB p xs=-1:=by
 induction xs with
 | nil=>rfl
 | cons x xs ih=>
  simp only [idxB];rw [h x List.mem_cons_self,ih (fun y hy=>h y (List.mem_cons_of_mem _ hy))];simp
theorem idxB_hit {α : Type} (p : α→Bool):∀(xs:List α) (k:Nat) (z : α),k<xs.length→p (xs.getD k z)=true→(∀j,j<k→p (xs.getD j z)=false)→idxB p xs=k
 | [],k,z,hk,_,_=>absurd hk (by simp)
 | x::xs,0,z,_,hp,_=>by
  have:p x=true:=hp
  simp [idxB,this]
 | x::xs,k+1,z,hk,hp,hm=>by
  have h0:p x=false:=hm 0 (by omega)
  have ih:=idxB_hit p xs k z (by simpa using hk) hp (fun j hj=>hm (j+1) (by omega));simp only [idxB,h0,ih];rw [if_neg (by simp),if_neg (by omega)];simp
theorem idxB_iff {α : Type} (p : α→Bool) (xs:List α):idxB p xs≥0↔xs.any p=true:=by
 induction xs with
 | nil=>simp [idxB]
 | cons x xs ih=>
  rw [List.any_cons,idxB];by_cases hp:p x=true
  ·rw [if_pos hp,hp];simp
  ·rw [if_neg hp,Bool.eq_false_iff.2 hp,Bool.false_or,←ih];rcases idxB_neg p xs with h|h
   ·rw [h];simp
   ·rw [if_neg (by omega)];omega
theorem idxB_any {α : Type} (p : α→Bool) (xs:List α):decide (idxB p xs≥0)=xs.any p:=by
 rw [Bool.eq_iff_iff,decide_eq_true_iff];exact idxB_iff p xs
theorem getD_mem {α : Type} {xs:List α} {k:Nat} {z : α} (h:k<xs.length):xs.getD k z∈xs:=by
 rw [List.getD_eq_getElem?_getD,List.getElem?_eq_getElem h];exact List.getElem_mem h
theorem cellsBelow {W w1:World} {n:Nat} (hb:Below n W w1) (h:n=W.heap.size):(∀b o,b<n→w1.cell? ⟨b,o,none⟩=W.cell? ⟨b,o,none⟩)∧(∀b o,b<n→w1.frozen? ⟨b,o,none⟩=W.frozen? ⟨b,o,none⟩):=by
 subst h;exact ⟨fun b o h=>hb.cell (p:=⟨b,o,none⟩) h,fun b o h=>hb.frozen (p:=⟨b,o,none⟩) h⟩
end Go.Proofs.YtahambloheoebaaGreatDoorX
namespace Go.Proofs
open Go.Shelf
def Tryz.lays169_ren:Go.Shelf.Ren:=⟨fun|169=>46|n=>n,fun|70=>101|9=>9|0=>0|72=>103|37=>22|127=>155|3=>3|5=>5|n=>n,fun|n=>n⟩
theorem Tryz.lays169:Go.Proofs.Lays.n169 Tryz.prog Tryz.lays169_ren:={
 mixed:=by kernel_rfl
 f169:=Tryz.func46.trans (congrArg some (by kernel_rfl))
 t0:=Tryz.underlying0
 a0:=Tryz.isAgg0
 z0:=Tryz.sizeOf0
 v0:=Tryz.zeroValue0
 t3:=Tryz.underlying3
 a3:=Tryz.isAgg3
 z3:=Tryz.sizeOf3
 v3:=Tryz.zeroValue3
 t9:=Tryz.underlying9
 a9:=Tryz.isAgg9
 z9:=Tryz.sizeOf9
 v9:=Tryz.zeroValue9
 t37:=Tryz.underlying22
 a37:=Tryz.isAgg22
 z37:=Tryz.sizeOf22
 v37:=Tryz.zeroValue22
 t70:=Tryz.underlying101
 a70:=Tryz.isAgg101
 z70:=Tryz.sizeOf101
 v70:=Tryz.zeroValue101
 t72:=Tryz.underlying103
 a72:=Tryz.isAgg103
 z72:=Tryz.sizeOf103
 v72:=Tryz.zeroValue103
 t127:=Tryz.underlying155
 a127:=Tryz.isAgg155
 z127:=Tryz.sizeOf155
 v127:=Tryz.zeroValue155 }
theorem Tryz.Builder_Extra_169:Builder.Extra Tryz.prog Tryz.lays169_ren:={
 sizeBuilder:=by kernel_rfl
 liesBuilder:=by kernel_rfl
 t5:=Tryz.underlying5
 a5:=Tryz.isAgg5
 z5:=Tryz.sizeOf5
 v5:=Tryz.zeroValue5
 infoByte:=by kernel_rfl
 cellsByte:=by kernel_rfl
 sizeByte:=by kernel_rfl
 neB5:=by decide }
def Tryz.lays156_ren:Go.Shelf.Ren:=⟨fun|156=>89|165=>139|166=>42|169=>46|240=>86|241=>171|276=>134|277=>187|n=>n,fun|31=>147|9=>9|3=>3|4=>4|0=>0|20=>20|72=>103|76=>106|70=>101|37=>22|75=>105|127=>155|164=>192|5=>5|80=>109|n=>n,fun|n=>n⟩
theorem Tryz.lays156:Go.Proofs.Lays.n156 Tryz.prog Tryz.lays156_ren:={
 mixed:=by kernel_rfl
 f156:=Tryz.func89.trans (congrArg some (by kernel_rfl))
 f165:=Tryz.func139.trans (congrArg some (by kernel_rfl))
 f166:=Tryz.func42.trans (congrArg some (by kernel_rfl))
 f169:=Tryz.func46.trans (congrArg some (by kernel_rfl))
 f240:=Tryz.func86.trans (congrArg some (by kernel_rfl))
 f241:=Tryz.func171.trans (congrArg some (by kernel_rfl))
 f276:=Tryz.func134.trans (congrArg some (by kernel_rfl))
 f277:=Tryz.func187.trans (congrArg some (by kernel_rfl))
 t0:=Tryz.underlying0
 a0:=Tryz.isAgg0
 z0:=Tryz.sizeOf0
 v0:=Tryz.zeroValue0
 t3:=Tryz.underlying3
 a3:=Tryz.isAgg3
 z3:=Tryz.sizeOf3
 v3:=Tryz.zeroValue3
 t4:=Tryz.underlying4
 a4:=Tryz.isAgg4
 z4:=Tryz.sizeOf4
 v4:=Tryz.zeroValue4
 t9:=Tryz.underlying9
 a9:=Tryz.isAgg9
 z9:=Tryz.sizeOf9
 v9:=Tryz.zeroValue9
 t20:=Tryz.underlying20
 a20:=Tryz.isAgg20
 z20:=Tryz.sizeOf20
 v20:=Tryz.zeroValue20
 t31:=Tryz.underlying147
 a31:=Tryz.isAgg147
 z31:=Tryz.sizeOf147
 v31:=Tryz.zeroValue147
 t37:=Tryz.underlying22
 a37:=Tryz.isAgg22
 z37:=Tryz.sizeOf22
 v37:=Tryz.zeroValue22
 t70:=Tryz.underlying101
 a70:=Tryz.isAgg101
 z70:=Tryz.sizeOf101
 v70:=Tryz.zeroValue101
 t72:=Tryz.underlying103
 a72:=Tryz.isAgg103
 z72:=Tryz.sizeOf103
 v72:=Tryz.zeroValue103
 t75:=Tryz.underlying105
 a75:=Tryz.isAgg105
 z75:=Tryz.sizeOf105
 v75:=Tryz.zeroValue105
 t76:=Tryz.underlying106
 a76:=Tryz.isAgg106
 z76:=Tryz.sizeOf106
 v76:=Tryz.zeroValue106
 t127:=Tryz.underlying155
 a127:=Tryz.isAgg155
 z127:=Tryz.sizeOf155
 v127:=Tryz.zeroValue155
 t164:=Tryz.underlying192
 a164:=Tryz.isAgg192
 z164:=Tryz.sizeOf192
 v164:=Tryz.zeroValue192 }
theorem Tryz.Builder_Extra_156:Builder.Extra Tryz.prog Tryz.lays156_ren:={
 sizeBuilder:=by kernel_rfl
 liesBuilder:=by kernel_rfl
 t5:=Tryz.underlying5
 a5:=Tryz.isAgg5
 z5:=Tryz.sizeOf5
 v5:=Tryz.zeroValue5
 infoByte:=by kernel_rfl
 cellsByte:=by kernel_rfl
 sizeByte:=by kernel_rfl
 neB5:=by decide }
def Tryz.lays137_ren:Go.Shelf.Ren:=⟨fun|137=>179|217=>189|266=>190|n=>n,fun|9=>9|5=>5|3=>3|n=>n,fun|n=>n⟩
theorem Tryz.lays137:Go.Proofs.Lays.n137 Tryz.prog Tryz.lays137_ren:={
 mixed:=by kernel_rfl
 f137:=Tryz.func179.trans (congrArg some (by kernel_rfl))
 f217:=Tryz.func189.trans (congrArg some (by kernel_rfl))
 f266:=Tryz.func190.trans (congrArg some (by kernel_rfl))
 t3:=Tryz.underlying3
 a3:=Tryz.isAgg3
 z3:=Tryz.sizeOf3
 v3:=Tryz.zeroValue3
 t5:=Tryz.underlying5
 a5:=Tryz.isAgg5
 z5:=Tryz.sizeOf5
 v5:=Tryz.zeroValue5
 t9:=Tryz.underlying9
 a9:=Tryz.isAgg9
 z9:=Tryz.sizeOf9
 v9:=Tryz.zeroValue9 }
open Go.RowKit in
theorem Tryz.strings_IndexByte (s:ByteArray) (c:Int) (w:World):
  Calls Tryz.prog 179 #[.string s,.int .u8 c] w fun e w'=>e=.returned (.int .i64 (Lib.indexByte s.data.toList c.toNat.toUInt8))∧w'=w:=Any.strings_IndexByte Tryz.lays137 s c w
open Go.RowKit in
theorem Tryz.Builder_String_any_k (B b:Nat) (l:List UInt8) (w:World) (h:Lib.IsBuilderF 103 5 B b (Lib.byteCells l) w) (hBw:B≤w.heap.size):
  Calls Tryz.prog 46 #[.pointer (some ⟨b,0,none⟩)] w fun e w'=>e=.returned (.string ⟨l.toArray⟩)∧(Lib.IsBuilderF 103 5 B b (Lib.byteCells l) w'∧Below B w w'∧Lib.OthersKept 5 (some b) w w'):=Any.Builder_String_any_k Tryz.lays169 Tryz.Builder_Extra_169 B b l w h hBw
def Tryz.laysM171_ren:Go.Shelf.Ren:=⟨fun|171=>65|243=>117|246=>87|283=>135|284=>136|285=>137|286=>138|129=>167|317=>166|318=>168|319=>169|320=>170|337=>185|338=>186|n=>n,fun|3=>3|9=>9|2=>2|4=>4|171=>194|0=>0|53=>195|37=>22|5=>5|173=>198|212=>233|51=>234|20=>20|213=>235|46=>237|232=>258|233=>259|n=>n,fun|17=>1|18=>2|19=>3|n=>n⟩
theorem Tryz.laysM171:Go.Proofs.LaysM.n171 Tryz.prog Tryz.laysM171_ren:={
 mixed:=by kernel_rfl
 f129:=Tryz.func167.trans (congrArg some (by kernel_rfl))
 f171:=Tryz.func65.trans (congrArg some (by kernel_rfl))
 f243:=Tryz.func117.trans (congrArg some (by kernel_rfl))
 f246:=Tryz.func87.trans (congrArg some (by kernel_rfl))
 f283:=Tryz.func135.trans (congrArg some (by kernel_rfl))
 f284:=Tryz.func136.trans (congrArg some (by kernel_rfl))
 f285:=Tryz.func137.trans (congrArg some (by kernel_rfl))
 f286:=Tryz.func138.trans (congrArg some (by kernel_rfl))
 f317:=Tryz.func166.trans (congrArg some (by kernel_rfl))
 f318:=Tryz.func168.trans (congrArg some (by kernel_rfl))
 f319:=Tryz.func169.trans (congrArg some (by kernel_rfl))
 f320:=Tryz.func170.trans (congrArg some (by kernel_rfl))
 f337:=Tryz.func185.trans (congrArg some (by kernel_rfl))
 f338:=Tryz.func186.trans (congrArg some (by kernel_rfl))
 t0:=Tryz.underlying0
 a0:=Tryz.isAgg0
 z0:=Tryz.sizeOf0
 v0:=Tryz.zeroValue0
 t2:=Tryz.underlying2
 a2:=Tryz.isAgg2
 z2:=Tryz.sizeOf2
 v2:=Tryz.zeroValue2
 t3:=Tryz.underlying3
 a3:=Tryz.isAgg3
 z3:=Tryz.sizeOf3
 v3:=Tryz.zeroValue3
 t4:=Tryz.underlying4
 a4:=Tryz.isAgg4
 z4:=Tryz.sizeOf4
 v4:=Tryz.zeroValue4
 t5:=Tryz.underlying5
 a5:=Tryz.isAgg5
 z5:=Tryz.sizeOf5
 v5:=Tryz.zeroValue5
 t9:=Tryz.underlying9
 a9:=Tryz.isAgg9
 z9:=Tryz.sizeOf9
 v9:=Tryz.zeroValue9
 t20:=Tryz.underlying20
 a20:=Tryz.isAgg20
 z20:=Tryz.sizeOf20
 v20:=Tryz.zeroValue20
 t37:=Tryz.underlying22
 a37:=Tryz.isAgg22
 z37:=Tryz.sizeOf22
 v37:=Tryz.zeroValue22
 t46:=Tryz.underlying237
 a46:=Tryz.isAgg237
 z46:=Tryz.sizeOf237
 v46:=Tryz.zeroValue237
 t51:=Tryz.underlying234
 a51:=Tryz.isAgg234
 z51:=Tryz.sizeOf234
 v51:=Tryz.zeroValue234
 t53:=Tryz.underlying195
 a53:=Tryz.isAgg195
 z53:=Tryz.sizeOf195
 v53:=Tryz.zeroValue195
 t171:=Tryz.underlying194
 a171:=Tryz.isAgg194
 z171:=Tryz.sizeOf194
 v171:=Tryz.zeroValue194
 t173:=Tryz.underlying198
 a173:=Tryz.isAgg198
 z173:=Tryz.sizeOf198
 v173:=Tryz.zeroValue198
 t212:=Tryz.underlying233
 a212:=Tryz.isAgg233
 z212:=Tryz.sizeOf233
 v212:=Tryz.zeroValue233
 t213:=Tryz.underlying235
 a213:=Tryz.isAgg235
 z213:=Tryz.sizeOf235
 t232:=Tryz.underlying258
 a232:=Tryz.isAgg258
 z232:=Tryz.sizeOf258
 v232:=Tryz.zeroValue258
 t233:=Tryz.underlying259
 a233:=Tryz.isAgg259
 z233:=Tryz.sizeOf259
 v233:=Tryz.zeroValue259
 g17:=by kernel_rfl
 g18:=by kernel_rfl
 g19:=by kernel_rfl
 i0:=by kernel_rfl
 i2:=by kernel_rfl
 i3:=by kernel_rfl
 i4:=by kernel_rfl
 i5:=by kernel_rfl
 i9:=by kernel_rfl
 i20:=by kernel_rfl
 i37:=by kernel_rfl
 i46:=by kernel_rfl
 i51:=by kernel_rfl
 i53:=by kernel_rfl
 i171:=by kernel_rfl
 i173:=by kernel_rfl
 i212:=by kernel_rfl
 i232:=by kernel_rfl
 i233:=by kernel_rfl
 m17:=by kernel_rfl
 m18:=by kernel_rfl
 m19:=by kernel_rfl }
open Go.RowKit Go.Sort Go.Lib in
theorem Tryz.strconv_Itoa (n:Int) (h0 : -9223372036854775808≤n) (h1:n≤9223372036854775807) (w:World) (htab:Lib.TabIs Tryz.prog w "internal/strconv.uint64pow10" .u64 Lib.pow10Tab):
  Calls Tryz.prog 65 #[.int .i64 n] w fun e w'=>e=.returned (.string ⟨(Lib.itoa n).toArray⟩)∧∃k os,w'=grow (w.drewN k) os:=Any.strconv_Itoa Tryz.laysM171 n h0 h1 w htab
def Tryz.laysM173_ren:Go.Shelf.Ren:=⟨fun|173=>43|246=>87|283=>135|284=>136|285=>137|286=>138|129=>167|317=>166|318=>168|319=>169|320=>170|337=>185|338=>186|n=>n,fun|2=>2|3=>3|9=>9|4=>4|171=>194|0=>0|53=>195|37=>22|5=>5|173=>198|212=>233|51=>234|20=>20|213=>235|46=>237|232=>258|233=>259|n=>n,fun|17=>1|18=>2|19=>3|n=>n⟩
theorem Tryz.laysM173:Go.Proofs.LaysM.n173 Tryz.prog Tryz.laysM173_ren:={
 mixed:=by kernel_rfl
 f129:=Tryz.func167.trans (congrArg some (by kernel_rfl))
 f173:=Tryz.func43.trans (congrArg some (by kernel_rfl))
 f246:=Tryz.func87.trans (congrArg some (by kernel_rfl))
 f283:=Tryz.func135.trans (congrArg some (by kernel_rfl))
 f284:=Tryz.func136.trans (congrArg some (by kernel_rfl))
 f285:=Tryz.func137.trans (congrArg some (by kernel_rfl))
 f286:=Tryz.func138.trans (congrArg some (by kernel_rfl))
 f317:=Tryz.func166.trans (congrArg some (by kernel_rfl))
 f318:=Tryz.func168.trans (congrArg some (by kernel_rfl))
 f319:=Tryz.func169.trans (congrArg some (by kernel_rfl))
 f320:=Tryz.func170.trans (congrArg some (by kernel_rfl))
 f337:=Tryz.func185.trans (congrArg some (by kernel_rfl))
 f338:=Tryz.func186.trans (congrArg some (by kernel_rfl))
 t0:=Tryz.underlying0
 a0:=Tryz.isAgg0
 z0:=Tryz.sizeOf0
 v0:=Tryz.zeroValue0
 t2:=Tryz.underlying2
 a2:=Tryz.isAgg2
 z2:=Tryz.sizeOf2
 v2:=Tryz.zeroValue2
 t3:=Tryz.underlying3
 a3:=Tryz.isAgg3
 z3:=Tryz.sizeOf3
 v3:=Tryz.zeroValue3
 t4:=Tryz.underlying4
 a4:=Tryz.isAgg4
 z4:=Tryz.sizeOf4
 v4:=Tryz.zeroValue4
 t5:=Tryz.underlying5
 a5:=Tryz.isAgg5
 z5:=Tryz.sizeOf5
 v5:=Tryz.zeroValue5
 t9:=Tryz.underlying9
 a9:=Tryz.isAgg9
 z9:=Tryz.sizeOf9
 v9:=Tryz.zeroValue9
 t20:=Tryz.underlying20
 a20:=Tryz.isAgg20
 z20:=Tryz.sizeOf20
 v20:=Tryz.zeroValue20
 t37:=Tryz.underlying22
 a37:=Tryz.isAgg22
 z37:=Tryz.sizeOf22
 v37:=Tryz.zeroValue22
 t46:=Tryz.underlying237
 a46:=Tryz.isAgg237
 z46:=Tryz.sizeOf237
 v46:=Tryz.zeroValue237
 t51:=Tryz.underlying234
 a51:=Tryz.isAgg234
 z51:=Tryz.sizeOf234
 v51:=Tryz.zeroValue234
 t53:=Tryz.underlying195
 a53:=Tryz.isAgg195
 z53:=Tryz.sizeOf195
 v53:=Tryz.zeroValue195
 t171:=Tryz.underlying194
 a171:=Tryz.isAgg194
 z171:=Tryz.sizeOf194
 v171:=Tryz.zeroValue194
 t173:=Tryz.underlying198
 a173:=Tryz.isAgg198
 z173:=Tryz.sizeOf198
 v173:=Tryz.zeroValue198
 t212:=Tryz.underlying233
 a212:=Tryz.isAgg233
 z212:=Tryz.sizeOf233
 v212:=Tryz.zeroValue233
 t213:=Tryz.underlying235
 a213:=Tryz.isAgg235
 z213:=Tryz.sizeOf235
 t232:=Tryz.underlying258
 a232:=Tryz.isAgg258
 z232:=Tryz.sizeOf258
 v232:=Tryz.zeroValue258
 t233:=Tryz.underlying259
 a233:=Tryz.isAgg259
 z233:=Tryz.sizeOf259
 v233:=Tryz.zeroValue259
 g17:=by kernel_rfl
 g18:=by kernel_rfl
 g19:=by kernel_rfl
 i0:=by kernel_rfl
 i2:=by kernel_rfl
 i3:=by kernel_rfl
 i4:=by kernel_rfl
 i5:=by kernel_rfl
 i9:=by kernel_rfl
 i20:=by kernel_rfl
 i37:=by kernel_rfl
 i46:=by kernel_rfl
 i51:=by kernel_rfl
 i53:=by kernel_rfl
 i171:=by kernel_rfl
 i173:=by kernel_rfl
 i212:=by kernel_rfl
 i232:=by kernel_rfl
 i233:=by kernel_rfl
 m17:=by kernel_rfl
 m18:=by kernel_rfl
 m19:=by kernel_rfl }
open Go.RowKit Go.Sort Go.Lib in
theorem Tryz.strconv_FormatInt_10 (n:Int) (h0 : -9223372036854775808≤n) (h1:n≤9223372036854775807) (w:World) (htab:Lib.TabIs Tryz.prog w "internal/strconv.uint64pow10" .u64 Lib.pow10Tab):
  Calls Tryz.prog 43 #[.int .i64 n,.int .i64 10] w fun e w'=>e=.returned (.string ⟨(Lib.itoa n).toArray⟩)∧∃k os,w'=grow (w.drewN k) os:=Any.strconv_FormatInt_10 Tryz.laysM173 n h0 h1 w htab
end Go.Proofs
namespace Go.Proofs.YtahambloheoebaaGreatDoorX
open Go.RowKit Go.Proofs.YtahambloheoebaaGreatDoorW.PrintWords
def TB (w:World):Prop:=Lib.TabIs Tryz.prog w "internal/strconv.uint64pow10" .u64 Lib.pow10Tab
theorem var_below {P:Program} {w w':World} {x:String} {cs:Array Value} (h:w.var? P x=some cs) (hb:Below w.heap.size w w'):w'.var? P x=some cs:=by
 unfold World.var? at h ⊢
 obtain ⟨g,e,h⟩:=Option.bind_eq_some_iff.1 h;rw [e,Option.bind_some];cases hg:w.heap[g]? with
 | none=>rw [hg] at h;cases h
 | some o=>
  rw [hb.block g (by
   obtain ⟨hlt,_⟩:=Array.getElem?_eq_some_iff.1 hg;exact hlt),hg]
  rw [hg] at h;exact h
theorem TB.below {w w':World} (h:TB w) (hb:Below w.heap.size w w'):TB w':=var_below h hb
def itoaB (n:Int):ByteArray:=⟨(Lib.itoa n).toArray⟩
def I64 (n:Int):Prop:=-9223372036854775808≤n∧n≤9223372036854775807
instance (n:Int):Decidable (I64 n):=by unfold I64;infer_instance
def tsts:List ByteArray:=[⟨#[]⟩,⟨#[61]⟩,⟨#[33,61]⟩,⟨#[60]⟩,⟨#[62]⟩,⟨#[60,61]⟩,⟨#[62,61]⟩]
def TS (w:World):Prop:=∃A c,w.cell? ⟨0,0,none⟩=some (.slice A 7 c)∧Kd.string.C w A 7 tsts
theorem TS.below {w w':World} (h:TS w) (hb:Below w.heap.size w w'):TS w':=by
 obtain ⟨A,c,h1,h2⟩:=h;exact ⟨A,c,(hb.cell (World.block_lt_of_cell? w _ h1)).trans h1,Kd.xo_ h2 hb⟩
def TBS (w:World):Prop:=TB w∧TS w
theorem TBS.below {w w':World} (h:TBS w) (hb:Below w.heap.size w w'):TBS w':=⟨h.1.below hb,h.2.below hb⟩
theorem TBS.TB {w w':World} (h:TBS w) (hb:Below w.heap.size w w'):TB w':=h.1.below hb
theorem itoaB_size (n:Int) (h:I64 n):(itoaB n).size≤21:=by
 have:=Lib.itoa_length_le n h.1 h.2
 show (Lib.itoa n).toArray.size≤21;simpa using this
theorem bt_le {a b:Nat} (h:a≤b):decide (a≤b)=true∧(b<a)=False:=⟨decide_eq_true h,eq_false (by omega)⟩
open Go.ChangeShapes
theorem tb_of_laid {W:World} {rest:List (String×DataW Unit)} (h:laidMet Tryz.prog (("internal/strconv.uint64pow10",Go.Proofs.YtahambloheoebaaGreatDoor.Rows.laid_internal_strconv_uint64pow10)::rest) W):TB W:=
 Lib.tabIs_of_head (g:=1) (t:=233) (e:=195) (n:=20) (by kernel_rfl) (by kernel_rfl) (by kernel_rfl) (by kernel_rfl) (by kernel_rfl) (by kernel_rfl) h
end Go.Proofs.YtahambloheoebaaGreatDoorX
namespace Go.Proofs.YtahambloheoebaaGreatDoorX
open Go.RowKit Go.Proofs.YtahambloheoebaaGreatDoorW.PrintWords
def okInt (x:Int):Prop:=-9223372036854775808≤x∧x≤9223372036854775807
def okByte (x:Int):Prop:=0≤x∧x≤255
def okIntS (xs:List Int):Prop:=xs.length≤9223372036854775807∧∀x,x∈xs→okInt x
theorem x7_ {i n:Nat} (h:i<n) (hn:n≤9223372036854775807):wrap64 ((i:Int)+1)=((i+1:Nat):Int):=by
 unfold wrap64
 omega
theorem up_ind {n:Nat} {P:Nat→Prop} (he:P n) (hs:∀i,i<n→P (i+1)→P i):∀i,i≤n→P i:=by
 intro i hi;obtain ⟨d,hd⟩:∃d,n=i+d:=⟨n-i,by omega⟩;induction d generalizing i with
 | zero=>rw [show i=n by omega];exact he
 | succ d ih=>exact hs i (by omega) (ih (i+1) (by omega) (by omega))
theorem getD_lt {α : Type} {xs:List α} {i:Nat} (z : α) (h:i<xs.length):xs.getD i z=xs[i]:=by
 rw [List.getD_eq_getElem?_getD,List.getElem?_eq_getElem h];rfl
theorem drop_getD {α : Type} {xs:List α} {i:Nat} (z : α) (h:i<xs.length):xs.drop i=xs.getD i z::xs.drop (i+1):=by
 rw [getD_lt z h];exact List.drop_eq_getElem_cons h
theorem getD_in {α : Type} {xs:List α} {k:Nat} (z : α) (h:k<xs.length):xs.getD k z∈xs:=by
 rw [getD_lt z h];exact List.getElem_mem h
def szv (t:Nat) (left:Int):Int:=if (t:Int)≤left then left-t else -1
theorem szv_pos {t:Nat} {left:Int} (h:(t:Int)≤left):szv t left=left-t:=if_pos h
theorem wj_ {t:Nat} {left:Int} (h:left<t):szv t left=-1:=if_neg (by omega)
theorem wrap_left {left:Int} {a:Nat} (h0:0≤left) (h1:left≤1048576) (ha:a≤9223372036854775807):wrap64 (left-(a:Int))=left-a:=by
 unfold wrap64
 omega
theorem sz_loop {α : Type} (xs:List α) (z : α) (tz : α→Nat) (L:Nat→Int→Int→Option Int)
  (hstep:∀(i:Nat) (left r:Int),i<xs.length→0≤left→left≤1048576→(left<tz (xs.getD i z)→r=-1)→
   ((tz (xs.getD i z):Int)≤left→Ev (fun k=>L k (left-tz (xs.getD i z)) ((i+1:Nat):Int)) r)→Ev (fun k=>L k left (i:Int)) r)
  (hend:∀left,Ev (fun k=>L k left (xs.length:Int)) left):
  ∀left,0≤left→left≤1048576→Ev (fun k=>L k left 0) (szv (xs.map tz).sum left):=by
 have key:∀i,i≤xs.length→∀left,0≤left→left≤1048576→Ev (fun k=>L k left (i:Int)) (szv ((xs.drop i).map tz).sum left):=by
  refine up_ind ?_ ?_
  ·intro left h0 h1;rw [List.drop_length,List.map_nil,List.sum_nil,szv_pos (by omega)];rw [show left-((0:Nat):Int)=left by omega];exact hend left
  ·intro i hi ih left h0 h1;rw [drop_getD z hi,List.map_cons,List.sum_cons];refine hstep i left _ hi h0 h1 (fun h=>wj_ (by omega)) (fun h=>?_)
   have e:szv (tz (xs.getD i z)+((xs.drop (i+1)).map tz).sum) left=szv ((xs.drop (i+1)).map tz).sum (left-tz (xs.getD i z)):=by
    unfold szv
    split<;>split<;>omega
   rw [e];exact ih _ (by omega) (by omega)
 intro left h0 h1;have:=key 0 (Nat.zero_le _) left h0 h1
 rw [List.drop_zero] at this;exact this
theorem to_loop {α β : Type} (xs:List α) (z : α) (f : α→β) (L:Nat→List β→Int→Option (List β))
  (hstep:∀(i:Nat) (out r:List β),i<xs.length→out.length=xs.length→Ev (fun k=>L k (out.set i (f (xs.getD i z))) ((i+1:Nat):Int)) r→Ev (fun k=>L k out (i:Int)) r)
  (hend:∀out,out.length=xs.length→Ev (fun k=>L k out (xs.length:Int)) out):∀out,out.length=xs.length→Ev (fun k=>L k out 0) (xs.map f):=by
 have key:∀i,i≤xs.length→∀out:List β,out.length=xs.length→Ev (fun k=>L k out (i:Int)) (out.take i++(xs.drop i).map f):=by
  refine up_ind ?_ ?_
  ·intro out ho;rw [List.drop_length,List.map_nil,List.append_nil,←ho,List.take_length,ho];exact hend out ho
  ·intro i hi ih out ho;refine hstep i out _ hi ho ?_;have:=ih (out.set i (f (xs.getD i z))) (by simpa using ho)
   have e:(out.set i (f (xs.getD i z))).take (i+1)++(xs.drop (i+1)).map f=out.take i++(xs.drop i).map f:=by
    rw [drop_getD z hi,List.map_cons,List.take_succ_eq_append_getElem (by simpa [ho] using hi),List.take_set_of_le (Nat.le_refl i)];simp
   rw [e] at this;exact this
 intro out ho;have:=key 0 (Nat.zero_le _) out ho
 simpa using this
theorem eq_loop (n:Nat) (L:Nat→Int→Option Bool) (hstep:∀i:Nat,i<n→Ev (fun k=>L k ((i+1:Nat):Int)) true→Ev (fun k=>L k (i:Int)) true)
  (hend:Ev (fun k=>L k (n:Int)) true):Ev (fun k=>L k 0) true:=by
 have:=up_ind (P:=fun i=>Ev (fun k=>L k (i:Int)) true) hend (fun i hi h=>hstep i hi h) 0 (Nat.zero_le _)
 exact this
theorem sum_le_of_mem {α : Type} (f : α→Nat):∀(xs:List α) (x : α),x∈xs→f x≤(xs.map f).sum
 | [],x,h=>absurd h (by simp)
 | y::ys,x,h=>by
  rw [List.map_cons,List.sum_cons];rcases List.mem_cons.1 h with h|h
  ·rw [h];omega
  ·have:=sum_le_of_mem f ys x h;omega
open Go
theorem a_ {p:Prop} (h:p):z0_ p:=⟨h⟩
section
variable {B g k:Nat} {w x y z:World} {o:Obj}
theorem mb_ (h:z0_ (Below B w x)) (f:Below B w x→Below B w y:=by intro h;repeat (first|(with_reducible first|exact h|apply z3_|apply y4_|apply x2_|refine zu_ ?_ (z0_.out (by assumption)))|exact h)):Below B w y:=f h.out
theorem ms_ (h:z0_ (Below w.heap.size w x)) (hb:Below y.heap.size y z) (f:Below w.heap.size w x→Below w.heap.size w y:=by intro h;repeat (first|(with_reducible first|exact h|apply z3_|apply y4_|apply x2_|refine zu_ ?_ (z0_.out (by assumption)))|exact h)):z0_ (Below w.heap.size w z):=⟨y7_ (f h.out) hb⟩
theorem mg_ (h:z0_ (Below w.heap.size w x)) (hg:g=y.heap.size) (f:Below w.heap.size w x→Below w.heap.size w y:=by intro h;repeat (first|(with_reducible first|exact h|apply z3_|apply y4_|apply x2_|refine zu_ ?_ (z0_.out (by assumption)))|exact h)):z0_ (w.heap.size≤g):=⟨hg▸zw_ (f h.out)⟩
theorem mc_ (h:z0_ (x.heap[k]?=some o)) (f:x.heap[k]?=some o→y.heap[k]?=some o:=by intro h;(with_reducible repeat (first|refine xa_ ?_ _|refine xp_ ?_|refine z5_ ?_ _|refine blk_far ?_ (z0_.out (by assumption)) _));exact h):y.heap[k]?=some o:=f h.out
theorem mk_ (h:z0_ (x.heap[k]?=some o)) (hb:Below y.heap.size y z) (f:x.heap[k]?=some o→y.heap[k]?=some o:=by intro h;(with_reducible repeat (first|refine xa_ ?_ _|refine xp_ ?_|refine z5_ ?_ _|refine blk_far ?_ (z0_.out (by assumption)) _));exact h):z0_ (z.heap[k]?=some o):=⟨zd_ (f h.out) hb⟩
theorem ml_ (h:z0_ (x.heap[k]?=some o)) (hg:g=y.heap.size) (f:x.heap[k]?=some o→y.heap[k]?=some o:=by intro h;(with_reducible repeat (first|refine xa_ ?_ _|refine xp_ ?_|refine z5_ ?_ _|refine blk_far ?_ (z0_.out (by assumption)) _));exact h):z0_ (k≠g):=⟨by rw [hg];exact Nat.ne_of_lt (blk_lt (f h.out))⟩
theorem mr_ (h:z0_ (x.heap[k]?=some o)) (hg:g=y.heap.size) (f:x.heap[k]?=some o→y.heap[k]?=some o:=by intro h;(with_reducible repeat (first|refine xa_ ?_ _|refine xp_ ?_|refine z5_ ?_ _|refine blk_far ?_ (z0_.out (by assumption)) _));exact h):z0_ (g≠k):=⟨by rw [hg];exact Nat.ne_of_gt (blk_lt (f h.out))⟩
theorem mx_ {p:Addr} {v:Value} (h:z0_ (Below w.heap.size w x)) (hx:w.cell? p=some v):x.cell? p=some v:=(h.out.cell (World.block_lt_of_cell? w _ hx)).trans hx
end
section
variable {α : Type} {d:Kd α} {e base:Nat} {ok:Nat→Prop} {w x:World} {v:Value} {xs:List α}
theorem mo_ (h:d.R e w base ok v xs) (f:d.R e w base ok v xs→d.R e x base ok v xs:=by intro h;(with_reducible repeat (first|apply Kd.R_alloc|apply Kd.R_drewN|apply Kd.R_drew));exact h):d.R e x base ok v xs:=f h
end
section
variable {α : Type} {d:Kd α} {e base A n:Nat} {ok:Nat→Prop} {w x y z:World} {v:Value} {xs:List α}
theorem mt_ {w0:World} {A:Option Addr} {n:Nat} (h:z0_ (d.C w0 A n xs)) (hb:z0_ (Below w0.heap.size w0 x)) (f:d.C x A n xs→d.C y A n xs:=by intro h;repeat (first|exact h|(with_reducible refine Kd.C_alloc ?_ _)|(with_reducible refine Kd.C_drewN ?_ _)|(with_reducible refine Kd.C_drew ?_))):d.C y A n xs:=f (Kd.xo_ h.out hb.out)
theorem mf_ {g:Nat} {cs:Array Value} {t:TypeId} (h:z0_ (d.R e w base ok v xs)) (hb:z0_ (w.heap[g]?=some (.cells cs t (0,0)))) (f:d.R e w base (fun k=>ok k∧k≠g) v xs→d.R e y base (fun k=>ok k∧k≠g) v xs:=by intro h;(with_reducible repeat (first|apply Kd.R_alloc|apply Kd.R_drewN|apply Kd.R_drew|refine Kd.R_far ?_ (fun _ hk=>hk.2) _));exact h) (ht:∀q,q∈e::d.E→q≠t:=by decide):d.R e y base (fun k=>ok k∧k≠g) v xs:=f (Kd.R_types h.out hb.out ht)
end
section
variable {g k:Nat} {x y w:World} {cs cs0 cs1 cs2:Array Value} {t:TypeId}
theorem farE {p:Addr} (hp:g≠p.block) (u:Value):(w.setCell p u).heap[g]?=w.heap[g]?:=Below.heap_setCell w p u g hp
theorem blk_setI (h:w.heap[g]?=some (.cells cs t (0,0))) (i:Nat) (v:Value):(w.setCell ⟨g,i,none⟩ v).heap[g]?=some (.cells (cs.setIfInBounds i v) t (0,0)):=wt_ h i v rfl
theorem mp_ (h:z0_ (x.heap[k]?=some (.cells cs0 t (0,0)))) (f:x.heap[k]?=some (.cells cs0 t (0,0))→y.heap[k]?=some (.cells cs1 t (0,0)):=by intro h;(with_reducible repeat (first|refine xa_ ?_ _|refine xp_ ?_|refine z5_ ?_ _|apply blk_setI|refine Eq.trans (farE (z0_.out (by assumption)) _) ?_));exact h) (e:cs1=cs2:=by rfl):y.heap[k]?=some (.cells cs2 t (0,0)):=e▸f h.out
end
theorem ob_ {α β : Type} {x:Option α} {f : α→Option β} {b : β} (h:x.bind f=some b):∃a,z0_ (x=some a)∧f a=some b:=by
 obtain ⟨a,h1,h2⟩:=Option.bind_eq_some_iff.1 h;exact ⟨a,⟨h1⟩,h2⟩
theorem bq_ {α : Type} [BEq α] [LawfulBEq α] {a b : α} (h:a=b):(a==b)=true∧(a != b)=false:=⟨beq_iff_eq.mpr h,bne_eq_false_iff_eq.mpr h⟩
theorem bn_ {α : Type} [BEq α] [LawfulBEq α] {a b : α} (h:¬a=b):(a==b)=false∧(a != b)=true:=⟨beq_eq_false_iff_ne.mpr h,bne_iff_ne.mpr h⟩
section
variable {g k:Nat} {w x y z:World} {o:Obj}
theorem mn_ (h:z0_ (x.heap[k]?=some o)) (hg:g=y.heap.size) (f:x.heap[k]?=some o→y.heap[k]?=some o:=by intro h;(with_reducible repeat (first|refine xa_ ?_ _|refine xp_ ?_|refine z5_ ?_ _|refine blk_far ?_ (z0_.out (by assumption)) _));exact h):z0_ (k≠g)∧z0_ (g≠k):=⟨ml_ h hg f,mr_ h hg f⟩
end
section
variable {α : Type} {d:Kd α} {e base:Nat} {ok:Nat→Prop} {w x y z:World} {v:Value} {xs:List α}
theorem ro_ (h:z0_ (d.R e x base ok v xs)) (hb:Below y.heap.size y z) (f:d.R e x base ok v xs→d.R e y base ok v xs:=by intro h;(with_reducible repeat (first|apply Kd.R_alloc|apply Kd.R_drewN|apply Kd.R_drew));exact h):z0_ (d.R e z base ok v xs):=⟨Kd.R_below (f h.out) hb⟩
end
section
variable {g:Nat} {w:World} {cs:Array Value} {t:TypeId} {v:Value}
theorem bk_ (h:z0_ (w.heap[g]?=some (.cells cs t (0,0)))) (i:Nat) (e:cs[i]?=some v:=by exact rfl):w.cell? ⟨g,i,none⟩=some v:=(z1_ h.out i).trans e
end
theorem ct_ {p:Prop} [Decidable p] (h:p):decide p=true:=decide_eq_true h
theorem cf_ {p:Prop} [Decidable p] (h:¬p):decide p=false:=decide_eq_false h
theorem oi_ {α : Type} {a b : α} (h:some a=some b):a=b:=Option.some.inj h
theorem mq_ {p:Prop} (h:p:=by first|rfl|(simp;done)|(simp [*];done)):p:=h
theorem me_ {p:Prop} (h:p:=by first|rfl|(simp [errW_none,errW_some]<;>rfl)|(simp [*,errW_none,errW_some]<;>rfl)):p:=h
theorem mw_ {p:Prop} (h:p:=by (try simp only [List.map_toArray,List.map_cons,List.map_nil]);first|done|rfl|(simp only [List.length_drop,List.length_take];rfl)):p:=h
theorem md_ {p:Prop} [Decidable p] (h:decide p=true:=by first|(with_reducible assumption)|assumption):p:=of_decide_eq_true h
section
variable {P:Program} {ops:Array Oper} {rest:List Oper} {o:Oper} {a:Act} {Q:Exit→Act→World→Prop} {W:World}
theorem bh_ {w x:World} (N:Tmp) (cs:Array Value) (t:TypeId) (HB:z0_ (Below w.heap.size w x))
  (h:∀g,g=W.heap.size→∀w1,z0_ (w1.heap[g]?=some (.cells cs t (0,0)))→z0_ (w.heap.size≤g)→Below W.heap.size W w1→wpList P ops Q rest (a.put o.dst (.pointer (some ⟨g,0,none⟩))) w1)
  (hd:o.dst=some N:=by with_reducible rfl) (hgd:o.guard=none:=by rfl) (hr:(execOp a.eval o).run P W=.ok (.value (.pointer (some ⟨W.heap.size,0,none⟩))) (W.alloc (.cells cs t (0,0))):=by first|(go_simp;done)|(go_simp;rfl))
  (f:Below w.heap.size w x→Below w.heap.size w W:=by intro h;repeat (first|(with_reducible first|exact h|apply z3_|apply y4_|apply x2_|refine zu_ ?_ (z0_.out (by assumption)))|exact h)):wpList P ops Q (o::rest) a W:=
 box_event hgd hd hr fun g hg w1 hb hl=>h g hg w1 ⟨hb⟩ ⟨hg▸zw_ (f HB.out)⟩ hl
end
section
variable {w:World} {g:Nat} {t:TypeId} {a0 a1 a2 a3 a4 a5 a6 a7 a8 a9:Value}
theorem cz2 (h:z0_ (w.heap[g]?=some (.cells #[a0,a1] t (0,0)))):w.cell? ⟨g,0,none⟩=some a0∧w.cell? ⟨g,1,none⟩=some a1∧w.frozen? ⟨g,0,none⟩=false∧w.frozen? ⟨g,1,none⟩=false:=⟨(z1_ h.out 0).trans rfl,(z1_ h.out 1).trans rfl,zf_ h.out 0,zf_ h.out 1⟩
theorem cz3 (h:z0_ (w.heap[g]?=some (.cells #[a0,a1,a2] t (0,0)))):w.cell? ⟨g,0,none⟩=some a0∧w.cell? ⟨g,1,none⟩=some a1∧w.cell? ⟨g,2,none⟩=some a2∧w.frozen? ⟨g,0,none⟩=false∧w.frozen? ⟨g,1,none⟩=false∧w.frozen? ⟨g,2,none⟩=false:=⟨(z1_ h.out 0).trans rfl,(z1_ h.out 1).trans rfl,(z1_ h.out 2).trans rfl,zf_ h.out 0,zf_ h.out 1,zf_ h.out 2⟩
theorem cz4 (h:z0_ (w.heap[g]?=some (.cells #[a0,a1,a2,a3] t (0,0)))):w.cell? ⟨g,0,none⟩=some a0∧w.cell? ⟨g,1,none⟩=some a1∧w.cell? ⟨g,2,none⟩=some a2∧w.cell? ⟨g,3,none⟩=some a3∧w.frozen? ⟨g,0,none⟩=false∧w.frozen? ⟨g,1,none⟩=false∧w.frozen? ⟨g,2,none⟩=false∧w.frozen? ⟨g,3,none⟩=false:=⟨(z1_ h.out 0).trans rfl,(z1_ h.out 1).trans rfl,(z1_ h.out 2).trans rfl,(z1_ h.out 3).trans rfl,zf_ h.out 0,zf_ h.out 1,zf_ h.out 2,zf_ h.out 3⟩
theorem cz5 (h:z0_ (w.heap[g]?=some (.cells #[a0,a1,a2,a3,a4] t (0,0)))):w.cell? ⟨g,0,none⟩=some a0∧w.cell? ⟨g,1,none⟩=some a1∧w.cell? ⟨g,2,none⟩=some a2∧w.cell? ⟨g,3,none⟩=some a3∧w.cell? ⟨g,4,none⟩=some a4∧w.frozen? ⟨g,0,none⟩=false∧w.frozen? ⟨g,1,none⟩=false∧w.frozen? ⟨g,2,none⟩=false∧w.frozen? ⟨g,3,none⟩=false∧w.frozen? ⟨g,4,none⟩=false:=⟨(z1_ h.out 0).trans rfl,(z1_ h.out 1).trans rfl,(z1_ h.out 2).trans rfl,(z1_ h.out 3).trans rfl,(z1_ h.out 4).trans rfl,zf_ h.out 0,zf_ h.out 1,zf_ h.out 2,zf_ h.out 3,zf_ h.out 4⟩
theorem cz6 (h:z0_ (w.heap[g]?=some (.cells #[a0,a1,a2,a3,a4,a5] t (0,0)))):w.cell? ⟨g,0,none⟩=some a0∧w.cell? ⟨g,1,none⟩=some a1∧w.cell? ⟨g,2,none⟩=some a2∧w.cell? ⟨g,3,none⟩=some a3∧w.cell? ⟨g,4,none⟩=some a4∧w.cell? ⟨g,5,none⟩=some a5∧w.frozen? ⟨g,0,none⟩=false∧w.frozen? ⟨g,1,none⟩=false∧w.frozen? ⟨g,2,none⟩=false∧w.frozen? ⟨g,3,none⟩=false∧w.frozen? ⟨g,4,none⟩=false∧w.frozen? ⟨g,5,none⟩=false:=⟨(z1_ h.out 0).trans rfl,(z1_ h.out 1).trans rfl,(z1_ h.out 2).trans rfl,(z1_ h.out 3).trans rfl,(z1_ h.out 4).trans rfl,(z1_ h.out 5).trans rfl,zf_ h.out 0,zf_ h.out 1,zf_ h.out 2,zf_ h.out 3,zf_ h.out 4,zf_ h.out 5⟩
theorem cz8 (h:z0_ (w.heap[g]?=some (.cells #[a0,a1,a2,a3,a4,a5,a6,a7] t (0,0)))):w.cell? ⟨g,0,none⟩=some a0∧w.cell? ⟨g,1,none⟩=some a1∧w.cell? ⟨g,2,none⟩=some a2∧w.cell? ⟨g,3,none⟩=some a3∧w.cell? ⟨g,4,none⟩=some a4∧w.cell? ⟨g,5,none⟩=some a5∧w.cell? ⟨g,6,none⟩=some a6∧w.cell? ⟨g,7,none⟩=some a7∧w.frozen? ⟨g,0,none⟩=false∧w.frozen? ⟨g,1,none⟩=false∧w.frozen? ⟨g,2,none⟩=false∧w.frozen? ⟨g,3,none⟩=false∧w.frozen? ⟨g,4,none⟩=false∧w.frozen? ⟨g,5,none⟩=false∧w.frozen? ⟨g,6,none⟩=false∧w.frozen? ⟨g,7,none⟩=false:=⟨(z1_ h.out 0).trans rfl,(z1_ h.out 1).trans rfl,(z1_ h.out 2).trans rfl,(z1_ h.out 3).trans rfl,(z1_ h.out 4).trans rfl,(z1_ h.out 5).trans rfl,(z1_ h.out 6).trans rfl,(z1_ h.out 7).trans rfl,zf_ h.out 0,zf_ h.out 1,zf_ h.out 2,zf_ h.out 3,zf_ h.out 4,zf_ h.out 5,zf_ h.out 6,zf_ h.out 7⟩
end
end Go.Proofs.YtahambloheoebaaGreatDoorX
