/- The row of the law FnExactAgenda: for every input the call returns true, and each argument reads behind it as it read before; no condition of ours. -/
import Derived.Shelf.Small.Bits
import Derived.Shelf.Small.Strs
import Derived.Shelf.Small.Wraps
import Derived.Shelf.Strconv.Itoa0
import Derived.Shelf.Strings.Search1
import Derived.Shelf.Sort.Plain
import Derived.Shelf.Slices.Reverse
import Derived.Ground.Names2Prog
import Derived.Shelf.Slices.Clone
import Derived.Shelf.Slices.SearchI
import Derived.Shelf.Slices.Cells
import Derived.Shelf.Slices.In.SortNone
import Derived.Test.YtejjlkbbnhpbdaaGreatProg
import Derived.IntWalk
import Derived.OneCell
import Derived.RangeFuncBox
import Derived.BigQuiet
import Derived.Deep.QuietTactic
import Derived.Maps.OwnSet
import Derived.Maps.Views
import Derived.WalkKit
import Derived.Maps.RangeWalk
import Derived.Carry
import Derived.Sort.OwnSortedInts
import Derived.Lib.OwnBridge
import Derived.Test.YtejjlkbbnhpbdaaGreatQAg5
namespace Go.Proofs
open Go.Shelf
def Tryz.lays137_ren:Go.Shelf.Ren:=⟨fun|137=>117|217=>131|266=>137|n=>n,fun|9=>9|5=>5|3=>3|n=>n,fun|n=>n⟩
theorem Tryz.lays137:Go.Proofs.Lays.n137 Tryz.prog Tryz.lays137_ren:={
 mixed:=by kernel_rfl
 f137:=Tryz.func117.trans (congrArg some (by kernel_rfl))
 f217:=Tryz.func131.trans (congrArg some (by kernel_rfl))
 f266:=Tryz.func137.trans (congrArg some (by kernel_rfl))
 t3:=Tryz.underlying3
 a3:=Tryz.isAgg3
 z3:=Tryz.sizeOf3
 v3:=Tryz.zeroValue3
 t5:=Tryz.underlying5
 a5:=Tryz.isAgg5
 z5:=Tryz.sizeOf5
 v5:=Tryz.zeroValue5
 t9:=Tryz.underlying9
 a9:=Tryz.isAgg9
 z9:=Tryz.sizeOf9
 v9:=Tryz.zeroValue9 }
open Go.RowKit in
theorem Tryz.strings_IndexByte (s:ByteArray) (c:Int) (w:World):
  Calls Tryz.prog 117 #[.string s,.int .u8 c] w fun e w'=>e=.returned (.int .i64 (Lib.indexByte s.data.toList c.toNat.toUInt8))∧w'=w:=Any.strings_IndexByte Tryz.lays137 s c w
def Tryz.lays215_ren:Go.Shelf.Ren:=⟨fun|215=>99|n=>n,fun|3=>3|4=>4|n=>n,fun|n=>n⟩
theorem Tryz.lays215:Go.Proofs.Lays.n215 Tryz.prog Tryz.lays215_ren:={
 mixed:=by kernel_rfl
 f215:=Tryz.func99.trans (congrArg some (by kernel_rfl))
 t3:=Tryz.underlying3
 a3:=Tryz.isAgg3
 z3:=Tryz.sizeOf3
 v3:=Tryz.zeroValue3
 t4:=Tryz.underlying4
 a4:=Tryz.isAgg4
 z4:=Tryz.sizeOf4
 v4:=Tryz.zeroValue4 }
open Go.RowKit in
theorem Tryz.cmp_isNaN_int (x:Int) (w:World):
  Calls Tryz.prog 99 #[.int .i64 x] w fun e w'=>e=.returned (.bool false)∧w'=w:=Any.cmp_isNaN_int Tryz.lays215 x w
def Tryz.lays122_ren:Go.Shelf.Ren:=⟨fun|122=>79|215=>99|n=>n,fun|3=>3|4=>4|n=>n,fun|n=>n⟩
theorem Tryz.lays122:Go.Proofs.Lays.n122 Tryz.prog Tryz.lays122_ren:={
 mixed:=by kernel_rfl
 f122:=Tryz.func79.trans (congrArg some (by kernel_rfl))
 f215:=Tryz.func99.trans (congrArg some (by kernel_rfl))
 t3:=Tryz.underlying3
 a3:=Tryz.isAgg3
 z3:=Tryz.sizeOf3
 v3:=Tryz.zeroValue3
 t4:=Tryz.underlying4
 a4:=Tryz.isAgg4
 z4:=Tryz.sizeOf4
 v4:=Tryz.zeroValue4 }
open Go.RowKit in
theorem Tryz.cmp_Compare_int (x y:Int) (w:World):
  Calls Tryz.prog 79 #[.int .i64 x,.int .i64 y] w fun e w'=>e=.returned (.int .i64 (Lib.compareInt x y))∧w'=w:=Any.cmp_Compare_int Tryz.lays122 x y w
def Tryz.lays189_ren:Go.Shelf.Ren:=⟨fun|189=>80|125=>101|257=>100|128=>127|129=>128|294=>118|295=>119|296=>120|297=>121|298=>122|299=>123|216=>124|300=>125|301=>126|328=>132|329=>133|330=>134|331=>135|332=>136|215=>99|343=>138|n=>n,fun|28=>23|3=>3|46=>155|0=>0|51=>176|53=>178|4=>4|183=>169|182=>168|131=>173|5=>5|9=>9|218=>181|222=>140|228=>186|229=>187|n=>n,fun|n=>n⟩
theorem Tryz.lays189:Go.Proofs.Lays.n189 Tryz.prog Tryz.lays189_ren:={
 mixed:=by kernel_rfl
 f125:=Tryz.func101.trans (congrArg some (by kernel_rfl))
 f128:=Tryz.func127.trans (congrArg some (by kernel_rfl))
 f129:=Tryz.func128.trans (congrArg some (by kernel_rfl))
 f189:=Tryz.func80.trans (congrArg some (by kernel_rfl))
 f215:=Tryz.func99.trans (congrArg some (by kernel_rfl))
 f216:=Tryz.func124.trans (congrArg some (by kernel_rfl))
 f257:=Tryz.func100.trans (congrArg some (by kernel_rfl))
 f294:=Tryz.func118.trans (congrArg some (by kernel_rfl))
 f295:=Tryz.func119.trans (congrArg some (by kernel_rfl))
 f296:=Tryz.func120.trans (congrArg some (by kernel_rfl))
 f297:=Tryz.func121.trans (congrArg some (by kernel_rfl))
 f298:=Tryz.func122.trans (congrArg some (by kernel_rfl))
 f299:=Tryz.func123.trans (congrArg some (by kernel_rfl))
 f300:=Tryz.func125.trans (congrArg some (by kernel_rfl))
 f301:=Tryz.func126.trans (congrArg some (by kernel_rfl))
 f328:=Tryz.func132.trans (congrArg some (by kernel_rfl))
 f329:=Tryz.func133.trans (congrArg some (by kernel_rfl))
 f330:=Tryz.func134.trans (congrArg some (by kernel_rfl))
 f331:=Tryz.func135.trans (congrArg some (by kernel_rfl))
 f332:=Tryz.func136.trans (congrArg some (by kernel_rfl))
 f343:=Tryz.func138.trans (congrArg some (by kernel_rfl))
 t0:=Tryz.underlying0
 a0:=Tryz.isAgg0
 z0:=Tryz.sizeOf0
 v0:=Tryz.zeroValue0
 t3:=Tryz.underlying3
 a3:=Tryz.isAgg3
 z3:=Tryz.sizeOf3
 v3:=Tryz.zeroValue3
 t4:=Tryz.underlying4
 a4:=Tryz.isAgg4
 z4:=Tryz.sizeOf4
 v4:=Tryz.zeroValue4
 t5:=Tryz.underlying5
 a5:=Tryz.isAgg5
 z5:=Tryz.sizeOf5
 v5:=Tryz.zeroValue5
 t9:=Tryz.underlying9
 a9:=Tryz.isAgg9
 z9:=Tryz.sizeOf9
 v9:=Tryz.zeroValue9
 t28:=Tryz.underlying23
 a28:=Tryz.isAgg23
 z28:=Tryz.sizeOf23
 v28:=Tryz.zeroValue23
 t46:=Tryz.underlying155
 a46:=Tryz.isAgg155
 z46:=Tryz.sizeOf155
 v46:=Tryz.zeroValue155
 t51:=Tryz.underlying176
 a51:=Tryz.isAgg176
 z51:=Tryz.sizeOf176
 v51:=Tryz.zeroValue176
 t53:=Tryz.underlying178
 a53:=Tryz.isAgg178
 z53:=Tryz.sizeOf178
 v53:=Tryz.zeroValue178
 t131:=Tryz.underlying173
 a131:=Tryz.isAgg173
 z131:=Tryz.sizeOf173
 v131:=Tryz.zeroValue173
 t182:=Tryz.underlying168
 a182:=Tryz.isAgg168
 z182:=Tryz.sizeOf168
 v182:=Tryz.zeroValue168
 t183:=Tryz.underlying169
 a183:=Tryz.isAgg169
 z183:=Tryz.sizeOf169
 v183:=Tryz.zeroValue169
 t218:=Tryz.underlying181
 a218:=Tryz.isAgg181
 z218:=Tryz.sizeOf181
 v218:=Tryz.zeroValue181
 t222:=Tryz.underlying140
 a222:=Tryz.isAgg140
 z222:=Tryz.sizeOf140
 v222:=Tryz.zeroValue140
 t228:=Tryz.underlying186
 a228:=Tryz.isAgg186
 z228:=Tryz.sizeOf186
 v228:=Tryz.zeroValue186
 t229:=Tryz.underlying187
 a229:=Tryz.isAgg187
 z229:=Tryz.sizeOf187
 v229:=Tryz.zeroValue187 }
open Go.Sort Go.RowKit in
theorem Tryz.slices_Sort_int (blk off cap:Nat) (zs:List Int) (w:World) (hH:Holds (Value.int .i64) w blk off zs.toArray) (hblk:blk<w.heap.size) (hsz:zs.length<4611686018427387904):
  Calls Tryz.prog 80 #[.slice (some ⟨blk,off,none⟩) zs.length cap] w fun e w'=>
   e=.returned (.tuple #[])∧∃n os,w'=grow (putRow (Value.int .i64) (Sort.ahead w n) blk off (zs.mergeSort fun x y=>decide (x≤y)).toArray) os:=Any.slices_Sort_int Tryz.lays189 blk off cap zs w hH hblk hsz
def Tryz.lays112_ren:Go.Shelf.Ren:=⟨fun|112=>81|n=>n,fun|28=>23|3=>3|4=>4|0=>0|n=>n,fun|n=>n⟩
theorem Tryz.lays112:Go.Proofs.Lays.n112 Tryz.prog Tryz.lays112_ren:={
 mixed:=by kernel_rfl
 f112:=Tryz.func81.trans (congrArg some (by kernel_rfl))
 t0:=Tryz.underlying0
 a0:=Tryz.isAgg0
 z0:=Tryz.sizeOf0
 v0:=Tryz.zeroValue0
 t3:=Tryz.underlying3
 a3:=Tryz.isAgg3
 z3:=Tryz.sizeOf3
 v3:=Tryz.zeroValue3
 t4:=Tryz.underlying4
 a4:=Tryz.isAgg4
 z4:=Tryz.sizeOf4
 v4:=Tryz.zeroValue4
 t28:=Tryz.underlying23
 a28:=Tryz.isAgg23
 z28:=Tryz.sizeOf23
 v28:=Tryz.zeroValue23 }
open Go.RowKit Go.Lib Go.Sort in
theorem Tryz.slices_Reverse_int (blk off cap:Nat) (zs:List Int) (w:World) (hH:Holds (Value.int .i64) w blk off zs.toArray) (hsz:zs.length≤9223372036854775807):
  Calls Tryz.prog 81 #[.slice (some ⟨blk,off,none⟩) zs.length cap] w fun e w'=>e=.returned (.tuple #[])∧∃n,w'=putRow (Value.int .i64) (Sort.ahead w n) blk off zs.reverse.toArray:=Any.slices_Reverse_int Tryz.lays112 blk off cap zs w hH hsz
open Go.RowKit Go.Lib Go.Sort in
theorem Tryz.slices_Reverse_int_empty (a:Option Addr) (cap:Nat) (w:World):
  Calls Tryz.prog 81 #[.slice a 0 cap] w fun e w'=>e=.returned (.tuple #[])∧w'=w:=Any.slices_Reverse_int_empty Tryz.lays112 a cap w
def Tryz.laysNm215_ren:Go.Shelf.Ren:=⟨fun|15=>37|n=>n,fun|22=>23|3=>3|4=>4|n=>n,fun|n=>n⟩
theorem Tryz.laysNm215:Go.Proofs.Lays2.n15 Tryz.prog Tryz.laysNm215_ren:={
 mixed:=by kernel_rfl
 f15:=Tryz.func37.trans (congrArg some (by kernel_rfl))
 t3:=Tryz.underlying3
 a3:=Tryz.isAgg3
 z3:=Tryz.sizeOf3
 v3:=Tryz.zeroValue3
 t4:=Tryz.underlying4
 a4:=Tryz.isAgg4
 z4:=Tryz.sizeOf4
 v4:=Tryz.zeroValue4
 t22:=Tryz.underlying23
 a22:=Tryz.isAgg23
 z22:=Tryz.sizeOf23
 v22:=Tryz.zeroValue23
 i3:=by kernel_rfl }
open Go.RowKit Go.Lib in
theorem Tryz.slices_Clone_int (b off n c:Nat) (zs:List Int) (w:World) (hz:n≤zs.length) (hbig:n*8≤140737488355328) (hc:∀j,j<zs.length→w.cell? ⟨b,off+j,none⟩=some (.int .i64 (zs.getD j 0))):
  Calls Tryz.prog 37 #[.slice (some ⟨b,off,none⟩) n c] w fun e w'=>∃v',e=.returned v'∧w'.ownsRow w.heap.size 3 1 v' n ((zs.take n).map (Value.int .i64))∧v'≠.slice none 0 0∧Below w.heap.size w w':=Any.slices_Clone_int Tryz.laysNm215 b off n c zs w hz hbig hc
open Go.RowKit Go.Lib in
theorem Tryz.slices_Clone_int_nil (n c:Nat) (w:World):
  Calls Tryz.prog 37 #[.slice none n c] w fun e w'=>e=.returned (.slice none 0 0)∧w'=w:=Any.slices_Clone_int_nil Tryz.laysNm215 n c w
open Go.RowKit Go.Lib in
theorem Tryz.slices_Clone_int_zero (a:Addr) (c:Nat) (w:World):
  Calls Tryz.prog 37 #[.slice (some a) 0 c] w fun e w'=>∃v',e=.returned v'∧w'.ownsRow w.heap.size 3 1 v' 0 []∧v'≠.slice none 0 0∧Below w.heap.size w w':=Any.slices_Clone_int_zero Tryz.laysNm215 a c w
open Go.RowKit Go.Sort in
theorem Tryz.slices_Sort_int_none (p:Option Addr) (cap:Nat) (w:World):
  Calls Tryz.prog 80 #[.slice p 0 cap] w fun e w'=>e=.returned (.tuple #[])∧w'=w:=Any.slices_Sort_int_none Tryz.lays189 p cap w
end Go.Proofs
namespace Go.Proofs.YtejjlkbbnhpbdaaGreat.P
open Go.Proofs.YtejjlkbbnhpbdaaGreatX
open Go.RowKit Go.Proofs.YtejjlkbbnhpbdaaGreatW.PrintWords Go.Proofs.YtejjlkbbnhpbdaaGreatW.PrintLast Go.Proofs.YtejjlkbbnhpbdaaGreatW.PrintMore
attribute [local go_sem] max2_int min2_int max_two min_two max_three min_three max_four min_four
set_option linter.unusedVariables false
set_option linter.unusedSimpArgs false
open Go.Proofs.YtejjlkbbnhpbdaaGreatX
def TreesV (w:World) (b base:Nat) (vF vD:Value) (fs ds:List Int):Prop:=
 w.heap[b]?=some (.cells #[vF,vD] 148 (0,0))∧w.ownsRow base 3 1 vF fs.length (nums .i64 fs)∧w.ownsRow base 3 1 vD ds.length (nums .i64 ds)∧NeRow vF vD
def Trees (w:World) (b base:Nat) (fs ds:List Int):Prop:=∃vF vD,TreesV w b base vF vD fs ds
def KeepT (w w':World):Prop:=w.heap.size≤w'.heap.size∧∀(g:Nat) (t:TypeId) (cs:Array Value),t≠148→t≠3→w.heap[g]?=some (.cells cs t (0,0))→w'.heap[g]?=some (.cells cs t (0,0))
theorem KeepT.trans {a b c:World} (h:KeepT a b) (k:KeepT b c):KeepT a c:=⟨Nat.le_trans h.1 k.1,fun g t cs h1 h2 h3=>k.2 g t cs h1 h2 (h.2 g t cs h1 h2 h3)⟩
theorem KeepT.below {w w':World} (h:Below w.heap.size w w'):KeepT w w':=⟨h.size,fun _ _ _ _ _ h3=>blk_below h3 h⟩
theorem KeepT.grown {w w':World} {base n:Nat} {v:Value} {xs:List Value} (ho:w.ownsRow base 3 1 v n xs) (hg:w.grownBy w' v.ownBlock):KeepT w w':=
 ⟨hg.size,fun g t cs _ h2 h3=>blk_grown h3 hg (own_ne ho h3 (Ne.symm h2))⟩
theorem KeepT.set {w:World} {b:Nat} {cs:Array Value} (hb:w.heap[b]?=some (.cells cs 148 (0,0))) (j:Nat) (u:Value):KeepT w (w.setCell ⟨b,j,none⟩ u):=by
 refine ⟨by simp,fun g t cs' h1 h2 h3=>blk_far h3 (p:=⟨b,j,none⟩) ?_ u⟩;exact blk_ne h3 hb h1
theorem ev_new {a b:Nat} (h:a=b):Value.slice (some ⟨a,0,none⟩) 1 1=Value.slice (some ⟨b,0,none⟩) 1 1:=by rw [h]
theorem own_readsI {w:World} {base n c:Nat} {e:TypeId} {k:IntKind} {A:Option Addr} {xs:List Int} (h:w.ownsRow base e 1 (.slice A n c) n (nums k xs)):ReadsInt w k A n xs:=own_reads' h
theorem own_form {w:World} {base n:Nat} {e:TypeId} {size:Nat} {v:Value} {xs:List Value} (h:w.ownsRow base e size v n xs):∃A m c,v=.slice A m c∧Aside0 (m=n):=by
 obtain ⟨A,c,h⟩:=own_slice h;exact ⟨A,n,c,h,⟨rfl⟩⟩
def exEq (x0 y0 x1 y1:Int) (x2 y2:ByteArray) (x3 y3 x4 y4:Int) (x5 y5:ByteArray) (x6 y6 x7 y7:Int):Bool:=
 x0==y0&&(x1==y1&&(x2.toList==y2.toList&&((x3==y3&&(x4==y4&&(x5.toList==y5.toList)))&&(x6==y6&&x7==y7))))
theorem eqExpr (d:Nat) (w:World) (x0 y0 x1 y1:Int) (x2 y2:ByteArray) (x3 y3 x4 y4:Int) (x5 y5:ByteArray) (x6 y6 x7 y7:Int):
  (Op.equalIn (d+3) 106 (.agg #[.int .i64 x0,.int .u8 x1,.string x2,.int .i64 x3,.int .i64 x4,.string x5,.int .i64 x6,.int .i64 x7]) (.agg #[.int .i64 y0,.int .u8 y1,.string y2,.int .i64 y3,.int .i64 y4,.string y5,.int .i64 y6,.int .i64 y7])).run Tryz.prog w=.ok (exEq x0 y0 x1 y1 x2 y2 x3 y3 x4 y4 x5 y5 x6 y6 x7 y7) w:=by
 unfold exEq
 refine eqA_of Tryz.underlying106 (by kernel_rfl) ?_;refine eqf_cons (by rfl) (by first|(go_simp;done)|(go_simp;rfl)) (by first|(go_simp;done)|(go_simp;rfl)) (by go_simp) ?_;refine eqf_cons (by rfl) (by first|(go_simp;done)|(go_simp;rfl)) (by first|(go_simp;done)|(go_simp;rfl)) (by go_simp) ?_;refine eqf_cons (by rfl) (by first|(go_simp;done)|(go_simp;rfl)) (by first|(go_simp;done)|(go_simp;rfl)) (by go_simp) ?_;refine eqf_cons (by rfl) (by first|(go_simp;done)|(go_simp;rfl)) (by first|(go_simp;done)|(go_simp;rfl)) (eqA104 d w _ _ _ _ _ _) ?_;refine eqf_cons (by rfl) (by first|(go_simp;done)|(go_simp;rfl)) (by first|(go_simp;done)|(go_simp;rfl)) (by go_simp) ?_;exact eqf_last (by rfl) (by first|(go_simp;done)|(go_simp;rfl)) (by first|(go_simp;done)|(go_simp;rfl)) (by go_simp)
def onlyC (e:S106):Bool:=exEq e.f0 0 e.f1 0 e.f2 ⟨#[]⟩ e.f3.f0 e.f3.f0 e.f3.f1 e.f3.f1 e.f3.f2 e.f3.f2 e.f4 0 e.f5 0
def onlyV (e:S106):Bool:=exEq e.f0 1 e.f1 0 e.f2 e.f2 e.f3.f0 0 e.f3.f1 0 e.f3.f2 ⟨#[]⟩ e.f4 0 e.f5 0
def onlyO (e:S106):Bool:=exEq e.f0 2 e.f1 e.f1 e.f2 ⟨#[]⟩ e.f3.f0 0 e.f3.f1 0 e.f3.f2 ⟨#[]⟩ e.f4 e.f4 e.f5 e.f5
def arIdx (c:Int):Int:=Lib.indexByte [43,45,42,47,37] c.toNat.toUInt8
def arithB (c:Int):Bool:=decide (0≤arIdx c)
theorem arIdx_calls (c:Int) (w:World):Calls Tryz.prog 117 #[.string (⟨#[43,45,42,47,37]⟩:ByteArray),.int .u8 c] w fun e w'=>e=.returned (.int .i64 (arIdx c))∧w'=w:=Tryz.strings_IndexByte _ c w
theorem mx_lt {a b:Int} (h:a<b):mx a b=b:=if_pos h
theorem mx_ge {a b:Int} (h:¬a<b):mx a b=a:=if_neg h
def impl_trees_grow.f (es:List S106) (fs ds:List Int):Option (Bool×List Int×List Int):=
 if es.length≤60∧fs.length<es.length∧ds.length=fs.length then
  (fun e:S106=>
   if e.f0=0 then some (onlyC e&&goodValueB e.f3,fs++[(fs.length:Int)],ds++[0])
   else if e.f0=1 then some (onlyV e&&goodSymB e.f2,fs++[(fs.length:Int)],ds++[0])
   else if e.f0=2 then
    if onlyO e=true∧arithB e.f1=true∧e.f5=(fs.length:Int)-1∧0≤e.f5∧0≤e.f4 then
     if 0≤rd fs e.f5∧rd fs e.f5≤64 then
      if e.f4=rd fs e.f5-1 then
       if e.f4<(fs.length:Int)∧0≤rd ds e.f4∧rd ds e.f4≤64∧0≤rd ds e.f5∧rd ds e.f5≤64 then
        some (decide (1+mx (rd ds e.f4) (rd ds e.f5)≤20),fs++[rd fs e.f4],ds++[1+mx (rd ds e.f4) (rd ds e.f5)])
       else none
      else some (false,fs++[(fs.length:Int)],ds++[0])
     else none
    else some (false,fs++[(fs.length:Int)],ds++[0])
   else some (false,fs++[(fs.length:Int)],ds++[0])) (rd_T106 es (fs.length:Int))
 else none
attribute [local go_sem high] eqExpr
theorem u6d0_2 {p:Prop} (h:p:=by
 exact ⟨by first|rfl|(simp;done),⟨_,_,blk_put B3.out 1 _ rfl,own_setCell F3.out (own_ne F3.out B3.out (by decide)) _,own_setCell O3.out (own_ne O3.out B3.out (by decide)) _,N3.out⟩,below_set HB3.out HWB.out,(K3.out).trans (KeepT.set B3.out _ _)⟩):p:=h
theorem u6d0_1 {p:Prop} (h:p:=by
 go_wp2_with (first
  | (at_builtin;refine print_append_num (w0:=w0) w0.heap.size rfl (.tmp 127) (.tmp 129) 23 3 .i64 8 rfl Tryz.underlying23 info3 (by decide) (.slice AF fs.length cF) fs ((fs.length:Int)) rfl (ev_new (by first|rfl|(simp;done))) OF.out HBQ.out (below_size HBQ.out) (by have:=L60.out;omega) ?_;intro v1 w1 ho1 hb1 hg1 hat1;obtain ⟨A1,m1,c1,ev1,M1⟩:=own_form ho1;subst ev1;have B1:=blk_grown BQ.out hg1 (own_ne OF.out BQ.out (by decide));have hd0:=(blk_cell B1 0).trans rfl;have hd1:=(blk_cell B1 1).trans rfl;have he0:=blk_frozen B1 0;have he1:=blk_frozen B1 1;simp only [List.getElem?_toArray,List.getElem?_cons_zero,List.getElem?_cons_succ] at hd0 hd1;have B2:=a_ (blk_put (cs':=#[.slice A1 m1 c1,.slice (AD) ds.length cD]) B1 0 (.slice A1 m1 c1) rfl);have F2:=a_ (own_setCell (p:=⟨b,0,none⟩) ho1 (own_ne ho1 B1 (by decide)) (.slice A1 m1 c1));have O1:=own_other OD.out hg1 (ne_other NE.out);have O2:=a_ (own_setCell (p:=⟨b,0,none⟩) O1 (own_ne O1 B1 (by decide)) (.slice A1 m1 c1));have HB2:=a_ (below_set (j:=0) (v:=.slice A1 m1 c1) hb1 HWB.out);have K2:=a_ ((KQ.out.trans (KeepT.grown OF.out hg1)).trans (KeepT.set B1 0 (.slice A1 m1 c1)));have N2:=a_ (ne_append NE.out hat1 OD.out);clear B1 O1 ho1 hb1 hg1 hat1)
  | (at_builtin;refine print_append_num (w0:=w0) w0.heap.size rfl (.tmp 137) (.tmp 139) 23 3 .i64 8 rfl Tryz.underlying23 info3 (by decide) (.slice AD ds.length cD) ds (0) rfl (ev_new (by first|rfl|(simp;done))) O2.out HB2.out (below_size HB2.out) (by have:=L60.out;omega) ?_;intro v2 w2 ho2 hb2 hg2 hat2;obtain ⟨A2,m2,c2,ev2,M2⟩:=own_form ho2;subst ev2;have B3:=a_ (blk_grown B2.out hg2 (own_ne O2.out B2.out (by decide)));have hg0:=(blk_cell B3.out 1).trans rfl;have hh1:=blk_frozen B3.out 1;simp only [List.getElem?_toArray,List.getElem?_cons_zero,List.getElem?_cons_succ] at hg0;have F3:=a_ (own_other F2.out hg2 (ne_other (ne_symm N2.out)));have O3:=a_ ho2;have HB3:=a_ hb2;have K3:=a_ (K2.out.trans (KeepT.grown O2.out hg2));have N3:=a_ (ne_append' N2.out hat2 F2.out);clear ho2 hb2 hg2 hat2))
 go_ret;exact u6d0_2):p:=h
theorem u6d0_0 {p:Prop} (h:p:=by
 go_enter Tryz.func97,Tryz.ntmps97;go_wp2;go_quiet ((go_at_call 117;exact Calls.quiet_of_same (arIdx_calls x.f1 _)))
 generalize hgq:(w.alloc (.cells #[.int .i64 2,.int .u8 x.f1,.string x.f2,.int .i64 x.f3.f0,.int .i64 x.f3.f1,.string x.f3.f2,.int .i64 x.f4,.int .i64 x.f5] 106)).drewN nq=wq;have BQ:=a_ (blk_at hgq (blk_alloc HT.out.1 (.cells #[.int .i64 2,.int .u8 x.f1,.string x.f2,.int .i64 x.f3.f0,.int .i64 x.f3.f1,.string x.f3.f2,.int .i64 x.f4,.int .i64 x.f5] 106)));have BX:=a_ (blk_at hgq (blk_new w (.cells #[.int .i64 2,.int .u8 x.f1,.string x.f2,.int .i64 x.f3.f0,.int .i64 x.f3.f1,.string x.f3.f2,.int .i64 x.f4,.int .i64 x.f5] 106)));have OF:=a_ (pw_own_below HT.out.2.1 (below_at hgq (below_alloc (Below.refl _ w) (.cells #[.int .i64 2,.int .u8 x.f1,.string x.f2,.int .i64 x.f3.f0,.int .i64 x.f3.f1,.string x.f3.f2,.int .i64 x.f4,.int .i64 x.f5] 106))));have OD:=a_ (pw_own_below HT.out.2.2.1 (below_at hgq (below_alloc (Below.refl _ w) (.cells #[.int .i64 2,.int .u8 x.f1,.string x.f2,.int .i64 x.f3.f0,.int .i64 x.f3.f1,.string x.f3.f2,.int .i64 x.f4,.int .i64 x.f5] 106))));have HBQ:=a_ (below_at hgq (below_alloc HB.out (.cells #[.int .i64 2,.int .u8 x.f1,.string x.f2,.int .i64 x.f3.f0,.int .i64 x.f3.f1,.string x.f3.f2,.int .i64 x.f4,.int .i64 x.f5] 106)));have KQ:=a_ (KeepT.below (below_at hgq (below_alloc (Below.refl _ w) (.cells #[.int .i64 2,.int .u8 x.f1,.string x.f2,.int .i64 x.f3.f0,.int .i64 x.f3.f1,.string x.f3.f2,.int .i64 x.f4,.int .i64 x.f5] 106))));clear hgq;have hq0z:=(blk_cell BQ.out 0).trans rfl;have hq1z:=(blk_cell BQ.out 1).trans rfl;have ha4z:=(blk_cell BX.out 6).trans rfl;have ha5z:=(blk_cell BX.out 7).trans rfl;simp only [List.getElem?_toArray,List.getElem?_cons_zero,List.getElem?_cons_succ] at hq0z hq1z ha4z ha5z;exact u6d0_1):p:=h
set_option maxHeartbeats 8000000 in
set_option maxRecDepth 100000 in
theorem impl_trees_grow.calls (A3:Option Addr) (c3:Nat) (es:List S106) (b:Nat) (fs ds fs' ds':List Int) (r:Bool) (w0 w:World) (hb:Below w0.heap.size w0 w) (hr:Kd.C k106 w0 A3 es.length es) (hc:es.length≤c3) (ht:Trees w b w0.heap.size fs ds) (hwb:w0.heap.size≤b) (h:impl_trees_grow.f es fs ds=some (r,fs',ds')):
  Calls Tryz.prog 97 #[.pointer (some ⟨b,0,none⟩),.slice A3 es.length c3] w fun e w'=>e=.returned (.bool r)∧Trees w' b w0.heap.size fs' ds'∧Below w0.heap.size w0 w'∧KeepT w w':=by
 have hu:=Tryz.underlying148;have hu1:=Tryz.underlying106;have hu2:=Tryz.underlying104;obtain ⟨vF,vD,ht⟩:=ht;have HT:=a_ ht;clear ht;have NE:=a_ HT.out.2.2.2;have HB:=a_ hb;have HR:=a_ hr;have HC:=a_ hc;have HWB:=a_ hwb;clear hb hr hc hwb;have hbl:=blk_lt HT.out.1;unfold impl_trees_grow.f at h
 by_cases c0:es.length≤60∧fs.length<es.length∧ds.length=fs.length
 case neg=>
  rw [if_neg c0] at h;cases h
 rw [if_pos c0] at h;obtain ⟨c60,hlt,hdl⟩:=c0;have L60:Aside0 (es.length≤60∧fs.length<es.length∧ds.length=fs.length):=⟨c60,hlt,hdl⟩
 have hz:(fs.length:Int)<(es.length:Int):=by omega
 have hz0:(0:Int)≤(fs.length:Int):=by omega
 have hz1:(fs.length:Int)≤60:=by omega
 clear hdl;obtain ⟨ad,e0,hx0,hx1,hx2,hx3,hx4,hx5,hx6,hx7⟩:=at_T106 HR.out (fs.length:Int) hz0 hz;cases e0;replace hx0:=(HB.out.cell (World.block_lt_of_cell? w0 _ hx0)).trans hx0;replace hx1:=(HB.out.cell (World.block_lt_of_cell? w0 _ hx1)).trans hx1;replace hx2:=(HB.out.cell (World.block_lt_of_cell? w0 _ hx2)).trans hx2;replace hx3:=(HB.out.cell (World.block_lt_of_cell? w0 _ hx3)).trans hx3;replace hx4:=(HB.out.cell (World.block_lt_of_cell? w0 _ hx4)).trans hx4;replace hx5:=(HB.out.cell (World.block_lt_of_cell? w0 _ hx5)).trans hx5;replace hx6:=(HB.out.cell (World.block_lt_of_cell? w0 _ hx6)).trans hx6;replace hx7:=(HB.out.cell (World.block_lt_of_cell? w0 _ hx7)).trans hx7;simp only [Int.toNat_natCast] at hx0 hx1 hx2 hx3 hx4 hx5 hx6 hx7;obtain ⟨AF,cF,eF⟩:=own_slice HT.out.2.1;subst eF;obtain ⟨AD,cD,eD⟩:=own_slice HT.out.2.2.1;subst eD;have hq0:=(blk_cell HT.out.1 0).trans rfl;have hq1:=(blk_cell HT.out.1 1).trans rfl;simp only [List.getElem?_toArray,List.getElem?_cons_zero,List.getElem?_cons_succ] at hq0 hq1;replace h:(fun e:S106=>_) (rd_T106 es (fs.length:Int))=some (r,fs',ds'):=h
 generalize rd_T106 es (fs.length:Int)=x at *;simp only [] at h;have OV:Aside0 (impl_Value_good.f x.f3.f0 x.f3.f1 x.f3.f2=some (goodValueB x.f3)):=⟨goodValueB_some x.f3⟩
 have OS:Aside0 (impl_goodSym.f x.f2=some (goodSymB x.f2)):=⟨rfl⟩
 by_cases k0:x.f0=0
 ·rw [if_pos k0] at h
  obtain ⟨rfl,rfl,rfl⟩:r=(onlyC x&&goodValueB x.f3)∧fs'=fs++[(fs.length:Int)]∧ds'=ds++[0]:=by
   have:=Option.some.inj h
   simp only [Prod.mk.injEq] at this;exact ⟨this.1.symm,this.2.1.symm,this.2.2.symm⟩
  clear h;rw [k0] at hx0;cases hC:onlyC x with
  | false=>
   have hC':exEq 0 0 x.f1 0 x.f2 ⟨#[]⟩ x.f3.f0 x.f3.f0 x.f3.f1 x.f3.f1 x.f3.f2 x.f3.f2 x.f4 0 x.f5 0=false:=by rw [←hC,onlyC,k0]
   clear hC k0;have BQ:=a_ (blk_alloc HT.out.1 (.cells #[.int .i64 0,.int .u8 x.f1,.string x.f2,.int .i64 x.f3.f0,.int .i64 x.f3.f1,.string x.f3.f2,.int .i64 x.f4,.int .i64 x.f5] 106));have OF:=a_ (own_alloc HT.out.2.1 (.cells #[.int .i64 0,.int .u8 x.f1,.string x.f2,.int .i64 x.f3.f0,.int .i64 x.f3.f1,.string x.f3.f2,.int .i64 x.f4,.int .i64 x.f5] 106));have OD:=a_ (own_alloc HT.out.2.2.1 (.cells #[.int .i64 0,.int .u8 x.f1,.string x.f2,.int .i64 x.f3.f0,.int .i64 x.f3.f1,.string x.f3.f2,.int .i64 x.f4,.int .i64 x.f5] 106));have HBQ:=a_ (below_alloc HB.out (.cells #[.int .i64 0,.int .u8 x.f1,.string x.f2,.int .i64 x.f3.f0,.int .i64 x.f3.f1,.string x.f3.f2,.int .i64 x.f4,.int .i64 x.f5] 106));have KQ:=a_ (KeepT.below (below_alloc (Below.refl _ w) (.cells #[.int .i64 0,.int .u8 x.f1,.string x.f2,.int .i64 x.f3.f0,.int .i64 x.f3.f1,.string x.f3.f2,.int .i64 x.f4,.int .i64 x.f5] 106)));go_enter Tryz.func97,Tryz.ntmps97
   go_wp2_with (first
    | (at_builtin;refine print_append_num (w0:=w0) w0.heap.size rfl (.tmp 127) (.tmp 129) 23 3 .i64 8 rfl Tryz.underlying23 info3 (by decide) (.slice AF fs.length cF) fs ((fs.length:Int)) rfl (ev_new (by first|rfl|(simp;done))) OF.out HBQ.out (below_size HBQ.out) (by have:=L60.out;omega) ?_;intro v1 w1 ho1 hb1 hg1 hat1;obtain ⟨A1,m1,c1,ev1,M1⟩:=own_form ho1;subst ev1;have B1:=blk_grown BQ.out hg1 (own_ne OF.out BQ.out (by decide));have hd0:=(blk_cell B1 0).trans rfl;have hd1:=(blk_cell B1 1).trans rfl;have he0:=blk_frozen B1 0;have he1:=blk_frozen B1 1;simp only [List.getElem?_toArray,List.getElem?_cons_zero,List.getElem?_cons_succ] at hd0 hd1;have B2:=a_ (blk_put (cs':=#[.slice A1 m1 c1,.slice (AD) ds.length cD]) B1 0 (.slice A1 m1 c1) rfl);have F2:=a_ (own_setCell (p:=⟨b,0,none⟩) ho1 (own_ne ho1 B1 (by decide)) (.slice A1 m1 c1));have O1:=own_other OD.out hg1 (ne_other NE.out);have O2:=a_ (own_setCell (p:=⟨b,0,none⟩) O1 (own_ne O1 B1 (by decide)) (.slice A1 m1 c1));have HB2:=a_ (below_set (j:=0) (v:=.slice A1 m1 c1) hb1 HWB.out);have K2:=a_ ((KQ.out.trans (KeepT.grown OF.out hg1)).trans (KeepT.set B1 0 (.slice A1 m1 c1)));have N2:=a_ (ne_append NE.out hat1 OD.out);clear B1 O1 ho1 hb1 hg1 hat1)
    | (at_builtin;refine print_append_num (w0:=w0) w0.heap.size rfl (.tmp 137) (.tmp 139) 23 3 .i64 8 rfl Tryz.underlying23 info3 (by decide) (.slice AD ds.length cD) ds (0) rfl (ev_new (by first|rfl|(simp;done))) O2.out HB2.out (below_size HB2.out) (by have:=L60.out;omega) ?_;intro v2 w2 ho2 hb2 hg2 hat2;obtain ⟨A2,m2,c2,ev2,M2⟩:=own_form ho2;subst ev2;have B3:=a_ (blk_grown B2.out hg2 (own_ne O2.out B2.out (by decide)));have hg0:=(blk_cell B3.out 1).trans rfl;have hh1:=blk_frozen B3.out 1;simp only [List.getElem?_toArray,List.getElem?_cons_zero,List.getElem?_cons_succ] at hg0;have F3:=a_ (own_other F2.out hg2 (ne_other (ne_symm N2.out)));have O3:=a_ ho2;have HB3:=a_ hb2;have K3:=a_ (K2.out.trans (KeepT.grown O2.out hg2));have N3:=a_ (ne_append' N2.out hat2 F2.out);clear ho2 hb2 hg2 hat2))
   go_ret;exact ⟨by first|rfl|(simp;done),⟨_,_,blk_put B3.out 1 _ rfl,own_setCell F3.out (own_ne F3.out B3.out (by decide)) _,own_setCell O3.out (own_ne O3.out B3.out (by decide)) _,N3.out⟩,below_set HB3.out HWB.out,(K3.out).trans (KeepT.set B3.out _ _)⟩
  | true=>
   have hC':exEq 0 0 x.f1 0 x.f2 ⟨#[]⟩ x.f3.f0 x.f3.f0 x.f3.f1 x.f3.f1 x.f3.f2 x.f3.f2 x.f4 0 x.f5 0=true:=by rw [←hC,onlyC,k0]
   clear hC k0;go_enter Tryz.func97,Tryz.ntmps97
   go_wp2_with (first
    | (at_builtin;refine print_append_num (w0:=w0) w0.heap.size rfl (.tmp 127) (.tmp 129) 23 3 .i64 8 rfl Tryz.underlying23 info3 (by decide) (.slice AF fs.length cF) fs ((fs.length:Int)) rfl (ev_new (by first|rfl|(simp;done))) OF.out HBQ.out (below_size HBQ.out) (by have:=L60.out;omega) ?_;intro v1 w1 ho1 hb1 hg1 hat1;obtain ⟨A1,m1,c1,ev1,M1⟩:=own_form ho1;subst ev1;have B1:=blk_grown BQ.out hg1 (own_ne OF.out BQ.out (by decide));have hd0:=(blk_cell B1 0).trans rfl;have hd1:=(blk_cell B1 1).trans rfl;have he0:=blk_frozen B1 0;have he1:=blk_frozen B1 1;simp only [List.getElem?_toArray,List.getElem?_cons_zero,List.getElem?_cons_succ] at hd0 hd1;have B2:=a_ (blk_put (cs':=#[.slice A1 m1 c1,.slice (AD) ds.length cD]) B1 0 (.slice A1 m1 c1) rfl);have F2:=a_ (own_setCell (p:=⟨b,0,none⟩) ho1 (own_ne ho1 B1 (by decide)) (.slice A1 m1 c1));have O1:=own_other OD.out hg1 (ne_other NE.out);have O2:=a_ (own_setCell (p:=⟨b,0,none⟩) O1 (own_ne O1 B1 (by decide)) (.slice A1 m1 c1));have HB2:=a_ (below_set (j:=0) (v:=.slice A1 m1 c1) hb1 HWB.out);have K2:=a_ ((KQ.out.trans (KeepT.grown OF.out hg1)).trans (KeepT.set B1 0 (.slice A1 m1 c1)));have N2:=a_ (ne_append NE.out hat1 OD.out);clear B1 O1 ho1 hb1 hg1 hat1)
    | (at_builtin;refine print_append_num (w0:=w0) w0.heap.size rfl (.tmp 137) (.tmp 139) 23 3 .i64 8 rfl Tryz.underlying23 info3 (by decide) (.slice AD ds.length cD) ds (0) rfl (ev_new (by first|rfl|(simp;done))) O2.out HB2.out (below_size HB2.out) (by have:=L60.out;omega) ?_;intro v2 w2 ho2 hb2 hg2 hat2;obtain ⟨A2,m2,c2,ev2,M2⟩:=own_form ho2;subst ev2;have B3:=a_ (blk_grown B2.out hg2 (own_ne O2.out B2.out (by decide)));have hg0:=(blk_cell B3.out 1).trans rfl;have hh1:=blk_frozen B3.out 1;simp only [List.getElem?_toArray,List.getElem?_cons_zero,List.getElem?_cons_succ] at hg0;have F3:=a_ (own_other F2.out hg2 (ne_other (ne_symm N2.out)));have O3:=a_ ho2;have HB3:=a_ hb2;have K3:=a_ (K2.out.trans (KeepT.grown O2.out hg2));have N3:=a_ (ne_append' N2.out hat2 F2.out);clear ho2 hb2 hg2 hat2)
    | (go_at_call 116;refine (impl_Value_good.calls x.f3.f0 x.f3.f1 x.f3.f2 (goodValueB x.f3) _ OV.out).mono ?_;rintro e wq ⟨rfl,hd⟩;have BQ:=a_ (blk_below (blk_alloc HT.out.1 (.cells #[.int .i64 0,.int .u8 x.f1,.string x.f2,.int .i64 x.f3.f0,.int .i64 x.f3.f1,.string x.f3.f2,.int .i64 x.f4,.int .i64 x.f5] 106)) hd);have OF:=a_ (pw_own_below (own_alloc HT.out.2.1 (.cells #[.int .i64 0,.int .u8 x.f1,.string x.f2,.int .i64 x.f3.f0,.int .i64 x.f3.f1,.string x.f3.f2,.int .i64 x.f4,.int .i64 x.f5] 106)) hd);have OD:=a_ (pw_own_below (own_alloc HT.out.2.2.1 (.cells #[.int .i64 0,.int .u8 x.f1,.string x.f2,.int .i64 x.f3.f0,.int .i64 x.f3.f1,.string x.f3.f2,.int .i64 x.f4,.int .i64 x.f5] 106)) hd);have HBQ:=a_ (below_step (below_alloc HB.out (.cells #[.int .i64 0,.int .u8 x.f1,.string x.f2,.int .i64 x.f3.f0,.int .i64 x.f3.f1,.string x.f3.f2,.int .i64 x.f4,.int .i64 x.f5] 106)) hd);have KQ:=a_ ((KeepT.below (below_alloc (Below.refl _ w) (.cells #[.int .i64 0,.int .u8 x.f1,.string x.f2,.int .i64 x.f3.f0,.int .i64 x.f3.f1,.string x.f3.f2,.int .i64 x.f4,.int .i64 x.f5] 106))).trans (KeepT.below hd));have hq2:=(blk_cell BQ.out 0).trans rfl;have hq3:=(blk_cell BQ.out 1).trans rfl;simp only [List.getElem?_toArray,List.getElem?_cons_zero,List.getElem?_cons_succ] at hq2 hq3;clear hd))
   go_ret;exact ⟨by first|rfl|(simp;done),⟨_,_,blk_put B3.out 1 _ rfl,own_setCell F3.out (own_ne F3.out B3.out (by decide)) _,own_setCell O3.out (own_ne O3.out B3.out (by decide)) _,N3.out⟩,below_set HB3.out HWB.out,(K3.out).trans (KeepT.set B3.out _ _)⟩
 by_cases k1:x.f0=1
 ·rw [if_neg k0,if_pos k1] at h;clear k0
  obtain ⟨rfl,rfl,rfl⟩:r=(onlyV x&&goodSymB x.f2)∧fs'=fs++[(fs.length:Int)]∧ds'=ds++[0]:=by
   have:=Option.some.inj h
   simp only [Prod.mk.injEq] at this;exact ⟨this.1.symm,this.2.1.symm,this.2.2.symm⟩
  clear h;rw [k1] at hx0;cases hC:onlyV x with
  | false=>
   have hC':exEq 1 1 x.f1 0 x.f2 x.f2 x.f3.f0 0 x.f3.f1 0 x.f3.f2 ⟨#[]⟩ x.f4 0 x.f5 0=false:=by rw [←hC,onlyV,k1]
   clear hC k1;have BQ:=a_ (blk_alloc HT.out.1 (.cells #[.int .i64 1,.int .u8 x.f1,.string x.f2,.int .i64 x.f3.f0,.int .i64 x.f3.f1,.string x.f3.f2,.int .i64 x.f4,.int .i64 x.f5] 106));have OF:=a_ (own_alloc HT.out.2.1 (.cells #[.int .i64 1,.int .u8 x.f1,.string x.f2,.int .i64 x.f3.f0,.int .i64 x.f3.f1,.string x.f3.f2,.int .i64 x.f4,.int .i64 x.f5] 106));have OD:=a_ (own_alloc HT.out.2.2.1 (.cells #[.int .i64 1,.int .u8 x.f1,.string x.f2,.int .i64 x.f3.f0,.int .i64 x.f3.f1,.string x.f3.f2,.int .i64 x.f4,.int .i64 x.f5] 106));have HBQ:=a_ (below_alloc HB.out (.cells #[.int .i64 1,.int .u8 x.f1,.string x.f2,.int .i64 x.f3.f0,.int .i64 x.f3.f1,.string x.f3.f2,.int .i64 x.f4,.int .i64 x.f5] 106));have KQ:=a_ (KeepT.below (below_alloc (Below.refl _ w) (.cells #[.int .i64 1,.int .u8 x.f1,.string x.f2,.int .i64 x.f3.f0,.int .i64 x.f3.f1,.string x.f3.f2,.int .i64 x.f4,.int .i64 x.f5] 106)));go_enter Tryz.func97,Tryz.ntmps97
   go_wp2_with (first
    | (at_builtin;refine print_append_num (w0:=w0) w0.heap.size rfl (.tmp 127) (.tmp 129) 23 3 .i64 8 rfl Tryz.underlying23 info3 (by decide) (.slice AF fs.length cF) fs ((fs.length:Int)) rfl (ev_new (by first|rfl|(simp;done))) OF.out HBQ.out (below_size HBQ.out) (by have:=L60.out;omega) ?_;intro v1 w1 ho1 hb1 hg1 hat1;obtain ⟨A1,m1,c1,ev1,M1⟩:=own_form ho1;subst ev1;have B1:=blk_grown BQ.out hg1 (own_ne OF.out BQ.out (by decide));have hd0:=(blk_cell B1 0).trans rfl;have hd1:=(blk_cell B1 1).trans rfl;have he0:=blk_frozen B1 0;have he1:=blk_frozen B1 1;simp only [List.getElem?_toArray,List.getElem?_cons_zero,List.getElem?_cons_succ] at hd0 hd1;have B2:=a_ (blk_put (cs':=#[.slice A1 m1 c1,.slice (AD) ds.length cD]) B1 0 (.slice A1 m1 c1) rfl);have F2:=a_ (own_setCell (p:=⟨b,0,none⟩) ho1 (own_ne ho1 B1 (by decide)) (.slice A1 m1 c1));have O1:=own_other OD.out hg1 (ne_other NE.out);have O2:=a_ (own_setCell (p:=⟨b,0,none⟩) O1 (own_ne O1 B1 (by decide)) (.slice A1 m1 c1));have HB2:=a_ (below_set (j:=0) (v:=.slice A1 m1 c1) hb1 HWB.out);have K2:=a_ ((KQ.out.trans (KeepT.grown OF.out hg1)).trans (KeepT.set B1 0 (.slice A1 m1 c1)));have N2:=a_ (ne_append NE.out hat1 OD.out);clear B1 O1 ho1 hb1 hg1 hat1)
    | (at_builtin;refine print_append_num (w0:=w0) w0.heap.size rfl (.tmp 137) (.tmp 139) 23 3 .i64 8 rfl Tryz.underlying23 info3 (by decide) (.slice AD ds.length cD) ds (0) rfl (ev_new (by first|rfl|(simp;done))) O2.out HB2.out (below_size HB2.out) (by have:=L60.out;omega) ?_;intro v2 w2 ho2 hb2 hg2 hat2;obtain ⟨A2,m2,c2,ev2,M2⟩:=own_form ho2;subst ev2;have B3:=a_ (blk_grown B2.out hg2 (own_ne O2.out B2.out (by decide)));have hg0:=(blk_cell B3.out 1).trans rfl;have hh1:=blk_frozen B3.out 1;simp only [List.getElem?_toArray,List.getElem?_cons_zero,List.getElem?_cons_succ] at hg0;have F3:=a_ (own_other F2.out hg2 (ne_other (ne_symm N2.out)));have O3:=a_ ho2;have HB3:=a_ hb2;have K3:=a_ (K2.out.trans (KeepT.grown O2.out hg2));have N3:=a_ (ne_append' N2.out hat2 F2.out);clear ho2 hb2 hg2 hat2))
   go_ret;exact ⟨by first|rfl|(simp;done),⟨_,_,blk_put B3.out 1 _ rfl,own_setCell F3.out (own_ne F3.out B3.out (by decide)) _,own_setCell O3.out (own_ne O3.out B3.out (by decide)) _,N3.out⟩,below_set HB3.out HWB.out,(K3.out).trans (KeepT.set B3.out _ _)⟩
  | true=>
   have hC':exEq 1 1 x.f1 0 x.f2 x.f2 x.f3.f0 0 x.f3.f1 0 x.f3.f2 ⟨#[]⟩ x.f4 0 x.f5 0=true:=by rw [←hC,onlyV,k1]
   clear hC k1;go_enter Tryz.func97,Tryz.ntmps97
   go_wp2_with (first
    | (at_builtin;refine print_append_num (w0:=w0) w0.heap.size rfl (.tmp 127) (.tmp 129) 23 3 .i64 8 rfl Tryz.underlying23 info3 (by decide) (.slice AF fs.length cF) fs ((fs.length:Int)) rfl (ev_new (by first|rfl|(simp;done))) OF.out HBQ.out (below_size HBQ.out) (by have:=L60.out;omega) ?_;intro v1 w1 ho1 hb1 hg1 hat1;obtain ⟨A1,m1,c1,ev1,M1⟩:=own_form ho1;subst ev1;have B1:=blk_grown BQ.out hg1 (own_ne OF.out BQ.out (by decide));have hd0:=(blk_cell B1 0).trans rfl;have hd1:=(blk_cell B1 1).trans rfl;have he0:=blk_frozen B1 0;have he1:=blk_frozen B1 1;simp only [List.getElem?_toArray,List.getElem?_cons_zero,List.getElem?_cons_succ] at hd0 hd1;have B2:=a_ (blk_put (cs':=#[.slice A1 m1 c1,.slice (AD) ds.length cD]) B1 0 (.slice A1 m1 c1) rfl);have F2:=a_ (own_setCell (p:=⟨b,0,none⟩) ho1 (own_ne ho1 B1 (by decide)) (.slice A1 m1 c1));have O1:=own_other OD.out hg1 (ne_other NE.out);have O2:=a_ (own_setCell (p:=⟨b,0,none⟩) O1 (own_ne O1 B1 (by decide)) (.slice A1 m1 c1));have HB2:=a_ (below_set (j:=0) (v:=.slice A1 m1 c1) hb1 HWB.out);have K2:=a_ ((KQ.out.trans (KeepT.grown OF.out hg1)).trans (KeepT.set B1 0 (.slice A1 m1 c1)));have N2:=a_ (ne_append NE.out hat1 OD.out);clear B1 O1 ho1 hb1 hg1 hat1)
    | (at_builtin;refine print_append_num (w0:=w0) w0.heap.size rfl (.tmp 137) (.tmp 139) 23 3 .i64 8 rfl Tryz.underlying23 info3 (by decide) (.slice AD ds.length cD) ds (0) rfl (ev_new (by first|rfl|(simp;done))) O2.out HB2.out (below_size HB2.out) (by have:=L60.out;omega) ?_;intro v2 w2 ho2 hb2 hg2 hat2;obtain ⟨A2,m2,c2,ev2,M2⟩:=own_form ho2;subst ev2;have B3:=a_ (blk_grown B2.out hg2 (own_ne O2.out B2.out (by decide)));have hg0:=(blk_cell B3.out 1).trans rfl;have hh1:=blk_frozen B3.out 1;simp only [List.getElem?_toArray,List.getElem?_cons_zero,List.getElem?_cons_succ] at hg0;have F3:=a_ (own_other F2.out hg2 (ne_other (ne_symm N2.out)));have O3:=a_ ho2;have HB3:=a_ hb2;have K3:=a_ (K2.out.trans (KeepT.grown O2.out hg2));have N3:=a_ (ne_append' N2.out hat2 F2.out);clear ho2 hb2 hg2 hat2)
    | (go_at_call 95;refine (impl_goodSym.calls x.f2 (goodSymB x.f2) _ OS.out).mono ?_;rintro e wq ⟨rfl,hd⟩;have BQ:=a_ (blk_below (blk_alloc HT.out.1 (.cells #[.int .i64 1,.int .u8 x.f1,.string x.f2,.int .i64 x.f3.f0,.int .i64 x.f3.f1,.string x.f3.f2,.int .i64 x.f4,.int .i64 x.f5] 106)) hd);have OF:=a_ (pw_own_below (own_alloc HT.out.2.1 (.cells #[.int .i64 1,.int .u8 x.f1,.string x.f2,.int .i64 x.f3.f0,.int .i64 x.f3.f1,.string x.f3.f2,.int .i64 x.f4,.int .i64 x.f5] 106)) hd);have OD:=a_ (pw_own_below (own_alloc HT.out.2.2.1 (.cells #[.int .i64 1,.int .u8 x.f1,.string x.f2,.int .i64 x.f3.f0,.int .i64 x.f3.f1,.string x.f3.f2,.int .i64 x.f4,.int .i64 x.f5] 106)) hd);have HBQ:=a_ (below_step (below_alloc HB.out (.cells #[.int .i64 1,.int .u8 x.f1,.string x.f2,.int .i64 x.f3.f0,.int .i64 x.f3.f1,.string x.f3.f2,.int .i64 x.f4,.int .i64 x.f5] 106)) hd);have KQ:=a_ ((KeepT.below (below_alloc (Below.refl _ w) (.cells #[.int .i64 1,.int .u8 x.f1,.string x.f2,.int .i64 x.f3.f0,.int .i64 x.f3.f1,.string x.f3.f2,.int .i64 x.f4,.int .i64 x.f5] 106))).trans (KeepT.below hd));have hq2:=(blk_cell BQ.out 0).trans rfl;have hq3:=(blk_cell BQ.out 1).trans rfl;simp only [List.getElem?_toArray,List.getElem?_cons_zero,List.getElem?_cons_succ] at hq2 hq3;clear hd))
   go_ret;exact ⟨by first|rfl|(simp;done),⟨_,_,blk_put B3.out 1 _ rfl,own_setCell F3.out (own_ne F3.out B3.out (by decide)) _,own_setCell O3.out (own_ne O3.out B3.out (by decide)) _,N3.out⟩,below_set HB3.out HWB.out,(K3.out).trans (KeepT.set B3.out _ _)⟩
 by_cases k2:x.f0=2
 ·rw [if_neg k0,if_neg k1,if_pos k2] at h;clear k0 k1;have hon:onlyO x=exEq 2 2 x.f1 x.f1 x.f2 ⟨#[]⟩ x.f3.f0 0 x.f3.f1 0 x.f3.f2 ⟨#[]⟩ x.f4 x.f4 x.f5 x.f5:=by rw [onlyO,k2]
  rw [k2] at hx0;clear k2;have hw1:IntKind.i64.wrap ((fs.length:Int)-1)=(fs.length:Int)-1:=IntWalk.i64_in _ (by omega)
  have HW1:=a_ hw1;clear hw1;by_cases o1:onlyO x=true
  rotate_left
  ·rw [if_neg (fun q=>o1 q.1)] at h
   obtain ⟨rfl,rfl,rfl⟩:r=(false)∧fs'=fs++[(fs.length:Int)]∧ds'=ds++[0]:=by
    have:=Option.some.inj h
    simp only [Prod.mk.injEq] at this;exact ⟨this.1.symm,this.2.1.symm,this.2.2.symm⟩
   clear h;have hC':exEq 2 2 x.f1 x.f1 x.f2 ⟨#[]⟩ x.f3.f0 0 x.f3.f1 0 x.f3.f2 ⟨#[]⟩ x.f4 x.f4 x.f5 x.f5=false:=by rw [←hon];simpa using o1
   clear hon o1;exact u6d0_0
  have hC':exEq 2 2 x.f1 x.f1 x.f2 ⟨#[]⟩ x.f3.f0 0 x.f3.f1 0 x.f3.f2 ⟨#[]⟩ x.f4 x.f4 x.f5 x.f5=true:=hon.symm.trans o1
  clear hon;by_cases a1:arithB x.f1=true
  rotate_left
  ·rw [if_neg (fun q=>a1 q.2.1)] at h
   obtain ⟨rfl,rfl,rfl⟩:r=(false)∧fs'=fs++[(fs.length:Int)]∧ds'=ds++[0]:=by
    have:=Option.some.inj h
    simp only [Prod.mk.injEq] at this;exact ⟨this.1.symm,this.2.1.symm,this.2.2.symm⟩
   clear h;have ha1:decide (0≤arIdx x.f1)=false:=by simpa [arithB] using a1
   clear a1 o1;exact u6d0_0
  have ha1:decide (0≤arIdx x.f1)=true:=a1
  by_cases b1:x.f5=(fs.length:Int)-1
  rotate_left
  ·rw [if_neg (fun q=>b1 q.2.2.1)] at h
   obtain ⟨rfl,rfl,rfl⟩:r=(false)∧fs'=fs++[(fs.length:Int)]∧ds'=ds++[0]:=by
    have:=Option.some.inj h
    simp only [Prod.mk.injEq] at this;exact ⟨this.1.symm,this.2.1.symm,this.2.2.symm⟩
   clear h;have hb1:(x.f5==(fs.length:Int)-1)=false:=by simpa using b1
   have hw1:=HW1.out;clear a1 o1 b1;exact u6d0_0
  have hb1:(x.f5==(fs.length:Int)-1)=true:=by simpa using b1
  by_cases b2:0≤x.f5
  rotate_left
  ·rw [if_neg (fun q=>b2 q.2.2.2.1)] at h
   obtain ⟨rfl,rfl,rfl⟩:r=(false)∧fs'=fs++[(fs.length:Int)]∧ds'=ds++[0]:=by
    have:=Option.some.inj h
    simp only [Prod.mk.injEq] at this;exact ⟨this.1.symm,this.2.1.symm,this.2.2.symm⟩
   clear h;have hb2:decide (0≤x.f5)=false:=decide_eq_false b2
   have hw1:=HW1.out;clear a1 o1 b1 b2;exact u6d0_0
  have hb2:decide (0≤x.f5)=true:=decide_eq_true b2
  by_cases a2:0≤x.f4
  rotate_left
  ·rw [if_neg (fun q=>a2 q.2.2.2.2)] at h
   obtain ⟨rfl,rfl,rfl⟩:r=(false)∧fs'=fs++[(fs.length:Int)]∧ds'=ds++[0]:=by
    have:=Option.some.inj h
    simp only [Prod.mk.injEq] at this;exact ⟨this.1.symm,this.2.1.symm,this.2.2.symm⟩
   clear h;have ha2:decide (0≤x.f4)=false:=decide_eq_false a2
   have hw1:=HW1.out;clear a1 o1 b1 b2 a2;exact u6d0_0
  have ha2:decide (0≤x.f4)=true:=decide_eq_true a2
  rw [if_pos ⟨o1,a1,b1,b2,a2⟩] at h;have hl5:x.f5<(fs.length:Int):=by omega
  have L1:Aside0 (x.f5<(ds.length:Int)):=⟨by have:=L60.out;omega⟩
  clear a1 o1 b1;by_cases g1:0≤rd fs x.f5∧rd fs x.f5≤64
  rotate_left
  ·rw [if_neg g1] at h;cases h
  rw [if_pos g1] at h;have hw2:IntKind.i64.wrap (rd fs x.f5-1)=rd fs x.f5-1:=IntWalk.i64_in _ (by omega)
  have HW2:=a_ hw2;clear hw2 g1;obtain ⟨ad5,e5,hy5⟩:=(own_readsI (own_alloc HT.out.2.1 (.cells #[.int .i64 2,.int .u8 x.f1,.string x.f2,.int .i64 x.f3.f0,.int .i64 x.f3.f1,.string x.f3.f2,.int .i64 x.f4,.int .i64 x.f5] 106))).at_ x.f5 b2 hl5;cases e5;by_cases a3:x.f4=rd fs x.f5-1
  rotate_left
  ·rw [if_neg a3] at h
   obtain ⟨rfl,rfl,rfl⟩:r=(false)∧fs'=fs++[(fs.length:Int)]∧ds'=ds++[0]:=by
    have:=Option.some.inj h
    simp only [Prod.mk.injEq] at this;exact ⟨this.1.symm,this.2.1.symm,this.2.2.symm⟩
   clear h;have ha3:(x.f4==rd fs x.f5-1)=false:=by simpa using a3
   have hw1:=HW1.out;have hw2:=HW2.out;clear a3;go_enter Tryz.func97,Tryz.ntmps97;go_wp2;go_quiet ((go_at_call 117;exact Calls.quiet_of_same (arIdx_calls x.f1 _)))
   generalize hgq:(w.alloc (.cells #[.int .i64 2,.int .u8 x.f1,.string x.f2,.int .i64 x.f3.f0,.int .i64 x.f3.f1,.string x.f3.f2,.int .i64 x.f4,.int .i64 x.f5] 106)).drewN nq=wq;have BQ:=a_ (blk_at hgq (blk_alloc HT.out.1 (.cells #[.int .i64 2,.int .u8 x.f1,.string x.f2,.int .i64 x.f3.f0,.int .i64 x.f3.f1,.string x.f3.f2,.int .i64 x.f4,.int .i64 x.f5] 106)));have BX:=a_ (blk_at hgq (blk_new w (.cells #[.int .i64 2,.int .u8 x.f1,.string x.f2,.int .i64 x.f3.f0,.int .i64 x.f3.f1,.string x.f3.f2,.int .i64 x.f4,.int .i64 x.f5] 106)));have OF:=a_ (pw_own_below HT.out.2.1 (below_at hgq (below_alloc (Below.refl _ w) (.cells #[.int .i64 2,.int .u8 x.f1,.string x.f2,.int .i64 x.f3.f0,.int .i64 x.f3.f1,.string x.f3.f2,.int .i64 x.f4,.int .i64 x.f5] 106))));have OD:=a_ (pw_own_below HT.out.2.2.1 (below_at hgq (below_alloc (Below.refl _ w) (.cells #[.int .i64 2,.int .u8 x.f1,.string x.f2,.int .i64 x.f3.f0,.int .i64 x.f3.f1,.string x.f3.f2,.int .i64 x.f4,.int .i64 x.f5] 106))));have HBQ:=a_ (below_at hgq (below_alloc HB.out (.cells #[.int .i64 2,.int .u8 x.f1,.string x.f2,.int .i64 x.f3.f0,.int .i64 x.f3.f1,.string x.f3.f2,.int .i64 x.f4,.int .i64 x.f5] 106)));have KQ:=a_ (KeepT.below (below_at hgq (below_alloc (Below.refl _ w) (.cells #[.int .i64 2,.int .u8 x.f1,.string x.f2,.int .i64 x.f3.f0,.int .i64 x.f3.f1,.string x.f3.f2,.int .i64 x.f4,.int .i64 x.f5] 106))));clear hgq;have hq0z:=(blk_cell BQ.out 0).trans rfl;have hq1z:=(blk_cell BQ.out 1).trans rfl;have ha4z:=(blk_cell BX.out 6).trans rfl;have ha5z:=(blk_cell BX.out 7).trans rfl;simp only [List.getElem?_toArray,List.getElem?_cons_zero,List.getElem?_cons_succ] at hq0z hq1z ha4z ha5z
   go_wp2_with (first
    | (at_builtin;refine print_append_num (w0:=w0) w0.heap.size rfl (.tmp 127) (.tmp 129) 23 3 .i64 8 rfl Tryz.underlying23 info3 (by decide) (.slice (some ad5) fs.length cF) fs ((fs.length:Int)) rfl (ev_new (by first|rfl|(simp;done))) OF.out HBQ.out (below_size HBQ.out) (by have:=L60.out;omega) ?_;intro v1 w1 ho1 hb1 hg1 hat1;obtain ⟨A1,m1,c1,ev1,M1⟩:=own_form ho1;subst ev1;have B1:=blk_grown BQ.out hg1 (own_ne OF.out BQ.out (by decide));have hd0:=(blk_cell B1 0).trans rfl;have hd1:=(blk_cell B1 1).trans rfl;have he0:=blk_frozen B1 0;have he1:=blk_frozen B1 1;simp only [List.getElem?_toArray,List.getElem?_cons_zero,List.getElem?_cons_succ] at hd0 hd1;have B2:=a_ (blk_put (cs':=#[.slice A1 m1 c1,.slice (AD) ds.length cD]) B1 0 (.slice A1 m1 c1) rfl);have F2:=a_ (own_setCell (p:=⟨b,0,none⟩) ho1 (own_ne ho1 B1 (by decide)) (.slice A1 m1 c1));have O1:=own_other OD.out hg1 (ne_other NE.out);have O2:=a_ (own_setCell (p:=⟨b,0,none⟩) O1 (own_ne O1 B1 (by decide)) (.slice A1 m1 c1));have HB2:=a_ (below_set (j:=0) (v:=.slice A1 m1 c1) hb1 HWB.out);have K2:=a_ ((KQ.out.trans (KeepT.grown OF.out hg1)).trans (KeepT.set B1 0 (.slice A1 m1 c1)));have N2:=a_ (ne_append NE.out hat1 OD.out);clear B1 O1 ho1 hb1 hg1 hat1)
    | (at_builtin;refine print_append_num (w0:=w0) w0.heap.size rfl (.tmp 137) (.tmp 139) 23 3 .i64 8 rfl Tryz.underlying23 info3 (by decide) (.slice AD ds.length cD) ds (0) rfl (ev_new (by first|rfl|(simp;done))) O2.out HB2.out (below_size HB2.out) (by have:=L60.out;omega) ?_;intro v2 w2 ho2 hb2 hg2 hat2;obtain ⟨A2,m2,c2,ev2,M2⟩:=own_form ho2;subst ev2;have B3:=a_ (blk_grown B2.out hg2 (own_ne O2.out B2.out (by decide)));have hg0:=(blk_cell B3.out 1).trans rfl;have hh1:=blk_frozen B3.out 1;simp only [List.getElem?_toArray,List.getElem?_cons_zero,List.getElem?_cons_succ] at hg0;have F3:=a_ (own_other F2.out hg2 (ne_other (ne_symm N2.out)));have O3:=a_ ho2;have HB3:=a_ hb2;have K3:=a_ (K2.out.trans (KeepT.grown O2.out hg2));have N3:=a_ (ne_append' N2.out hat2 F2.out);clear ho2 hb2 hg2 hat2))
   go_ret;exact u6d0_2
  rw [if_pos a3] at h;have ha3:(x.f4==rd fs x.f5-1)=true:=by simpa using a3
  clear a3;by_cases g2:x.f4<(fs.length:Int)∧0≤rd ds x.f4∧rd ds x.f4≤64∧0≤rd ds x.f5∧rd ds x.f5≤64
  rotate_left
  ·rw [if_neg g2] at h;cases h
  rw [if_pos g2] at h;obtain ⟨hl4,g2,g3,g4,g5⟩:=g2;have L2:Aside0 (x.f4<(ds.length:Int)):=⟨by have:=L60.out;omega⟩
  have hw3:IntKind.i64.wrap (1+mx (rd ds x.f4) (rd ds x.f5))=1+mx (rd ds x.f4) (rd ds x.f5):=IntWalk.i64_in _ (by unfold mx;split<;>omega)
  have HW3:=a_ hw3;clear hw3
  obtain ⟨rfl,rfl,rfl⟩:r=decide (1+mx (rd ds x.f4) (rd ds x.f5)≤20)∧fs'=fs++[rd fs x.f4]∧ds'=ds++[1+mx (rd ds x.f4) (rd ds x.f5)]:=by
   have:=Option.some.inj h
   simp only [Prod.mk.injEq] at this;exact ⟨this.1.symm,this.2.1.symm,this.2.2.symm⟩
  clear h;have hw1:=HW1.out;have hw2:=HW2.out;go_enter Tryz.func97,Tryz.ntmps97;go_wp2;go_quiet ((go_at_call 117;exact Calls.quiet_of_same (arIdx_calls x.f1 _)))
  generalize hgq:(w.alloc (.cells #[.int .i64 2,.int .u8 x.f1,.string x.f2,.int .i64 x.f3.f0,.int .i64 x.f3.f1,.string x.f3.f2,.int .i64 x.f4,.int .i64 x.f5] 106)).drewN nq=wq;have BQ:=a_ (blk_at hgq (blk_alloc HT.out.1 (.cells #[.int .i64 2,.int .u8 x.f1,.string x.f2,.int .i64 x.f3.f0,.int .i64 x.f3.f1,.string x.f3.f2,.int .i64 x.f4,.int .i64 x.f5] 106)));have BX:=a_ (blk_at hgq (blk_new w (.cells #[.int .i64 2,.int .u8 x.f1,.string x.f2,.int .i64 x.f3.f0,.int .i64 x.f3.f1,.string x.f3.f2,.int .i64 x.f4,.int .i64 x.f5] 106)));have OF:=a_ (pw_own_below HT.out.2.1 (below_at hgq (below_alloc (Below.refl _ w) (.cells #[.int .i64 2,.int .u8 x.f1,.string x.f2,.int .i64 x.f3.f0,.int .i64 x.f3.f1,.string x.f3.f2,.int .i64 x.f4,.int .i64 x.f5] 106))));have OD:=a_ (pw_own_below HT.out.2.2.1 (below_at hgq (below_alloc (Below.refl _ w) (.cells #[.int .i64 2,.int .u8 x.f1,.string x.f2,.int .i64 x.f3.f0,.int .i64 x.f3.f1,.string x.f3.f2,.int .i64 x.f4,.int .i64 x.f5] 106))));have HBQ:=a_ (below_at hgq (below_alloc HB.out (.cells #[.int .i64 2,.int .u8 x.f1,.string x.f2,.int .i64 x.f3.f0,.int .i64 x.f3.f1,.string x.f3.f2,.int .i64 x.f4,.int .i64 x.f5] 106)));have KQ:=a_ (KeepT.below (below_at hgq (below_alloc (Below.refl _ w) (.cells #[.int .i64 2,.int .u8 x.f1,.string x.f2,.int .i64 x.f3.f0,.int .i64 x.f3.f1,.string x.f3.f2,.int .i64 x.f4,.int .i64 x.f5] 106))));clear hgq;have hq0z:=(blk_cell BQ.out 0).trans rfl;have hq1z:=(blk_cell BQ.out 1).trans rfl;have ha4z:=(blk_cell BX.out 6).trans rfl;have ha5z:=(blk_cell BX.out 7).trans rfl;simp only [List.getElem?_toArray,List.getElem?_cons_zero,List.getElem?_cons_succ] at hq0z hq1z ha4z ha5z;obtain ⟨ad4,e4,hy4⟩:=(own_readsI OF.out).at_ x.f4 a2 hl4;cases e4;have hi0:(0:Int)≤x.f4:=a2
  go_wp2;go_quiet (fail)
  generalize hgq:wq.drewN nq=wr;replace BQ:=a_ (blk_at hgq BQ.out);replace BX:=a_ (blk_at hgq BX.out);replace OF:=a_ (pw_own_below OF.out (below_at hgq (Below.refl _ _)));replace OD:=a_ (pw_own_below OD.out (below_at hgq (Below.refl _ _)));replace HBQ:=a_ (below_at hgq HBQ.out);replace KQ:=a_ (KQ.out.trans (KeepT.below (below_at hgq (Below.refl _ _))));clear hgq;have hq0y:=(blk_cell BQ.out 0).trans rfl;have hq1y:=(blk_cell BQ.out 1).trans rfl;have ha4y:=(blk_cell BX.out 6).trans rfl;have ha5y:=(blk_cell BX.out 7).trans rfl;simp only [List.getElem?_toArray,List.getElem?_cons_zero,List.getElem?_cons_succ] at hq0y hq1y ha4y ha5y;obtain ⟨ad6,e6,hy6⟩:=(own_readsI OD.out).at_ x.f4 a2 L2.out;cases e6;obtain ⟨ad7,e7,hy7⟩:=(own_readsI OD.out).at_ x.f5 b2 L1.out;cases e7;have hl8:=L1.out;have hl9:=L2.out;by_cases cm:rd ds x.f4<rd ds x.f5
  ·have em:=mx_lt cm;have hw3:=HW3.out;rw [em] at hw3;have EM:=a_ em;clear em;go_wp2;go_quiet (fail)
   generalize hgq:wr.drewN nq=ws;replace BQ:=a_ (blk_at hgq BQ.out);replace BX:=a_ (blk_at hgq BX.out);replace OF:=a_ (pw_own_below OF.out (below_at hgq (Below.refl _ _)));replace OD:=a_ (pw_own_below OD.out (below_at hgq (Below.refl _ _)));replace HBQ:=a_ (below_at hgq HBQ.out);replace KQ:=a_ (KQ.out.trans (KeepT.below (below_at hgq (Below.refl _ _))));clear hgq;have hq0x:=(blk_cell BQ.out 0).trans rfl;have hq1x:=(blk_cell BQ.out 1).trans rfl;have ha4x:=(blk_cell BX.out 6).trans rfl;have ha5x:=(blk_cell BX.out 7).trans rfl;simp only [List.getElem?_toArray,List.getElem?_cons_zero,List.getElem?_cons_succ] at hq0x hq1x ha4x ha5x
   go_wp2_with (first
    | (at_builtin;refine print_append_num (w0:=w0) w0.heap.size rfl (.tmp 127) (.tmp 129) 23 3 .i64 8 rfl Tryz.underlying23 info3 (by decide) (.slice (some ad5) fs.length cF) fs (rd fs x.f4) rfl (ev_new (by first|rfl|(simp;done))) OF.out HBQ.out (below_size HBQ.out) (by have:=L60.out;omega) ?_;intro v1 w1 ho1 hb1 hg1 hat1;obtain ⟨A1,m1,c1,ev1,M1⟩:=own_form ho1;subst ev1;have B1:=blk_grown BQ.out hg1 (own_ne OF.out BQ.out (by decide));have hd0:=(blk_cell B1 0).trans rfl;have hd1:=(blk_cell B1 1).trans rfl;have he0:=blk_frozen B1 0;have he1:=blk_frozen B1 1;simp only [List.getElem?_toArray,List.getElem?_cons_zero,List.getElem?_cons_succ] at hd0 hd1;have B2:=a_ (blk_put (cs':=#[.slice A1 m1 c1,.slice ((some ad6)) ds.length cD]) B1 0 (.slice A1 m1 c1) rfl);have F2:=a_ (own_setCell (p:=⟨b,0,none⟩) ho1 (own_ne ho1 B1 (by decide)) (.slice A1 m1 c1));have O1:=own_other OD.out hg1 (ne_other NE.out);have O2:=a_ (own_setCell (p:=⟨b,0,none⟩) O1 (own_ne O1 B1 (by decide)) (.slice A1 m1 c1));have HB2:=a_ (below_set (j:=0) (v:=.slice A1 m1 c1) hb1 HWB.out);have K2:=a_ ((KQ.out.trans (KeepT.grown OF.out hg1)).trans (KeepT.set B1 0 (.slice A1 m1 c1)));have N2:=a_ (ne_append NE.out hat1 OD.out);clear B1 O1 ho1 hb1 hg1 hat1)
    | (at_builtin;refine print_append_num (w0:=w0) w0.heap.size rfl (.tmp 137) (.tmp 139) 23 3 .i64 8 rfl Tryz.underlying23 info3 (by decide) (.slice (some ad6) ds.length cD) ds (1+rd ds x.f5) rfl (ev_new (by first|rfl|(simp;done))) O2.out HB2.out (below_size HB2.out) (by have:=L60.out;omega) ?_;intro v2 w2 ho2 hb2 hg2 hat2;obtain ⟨A2,m2,c2,ev2,M2⟩:=own_form ho2;subst ev2;have B3:=a_ (blk_grown B2.out hg2 (own_ne O2.out B2.out (by decide)));have hg0:=(blk_cell B3.out 1).trans rfl;have hh1:=blk_frozen B3.out 1;simp only [List.getElem?_toArray,List.getElem?_cons_zero,List.getElem?_cons_succ] at hg0;have F3:=a_ (own_other F2.out hg2 (ne_other (ne_symm N2.out)));have O3:=a_ ho2;have HB3:=a_ hb2;have K3:=a_ (K2.out.trans (KeepT.grown O2.out hg2));have N3:=a_ (ne_append' N2.out hat2 F2.out);clear ho2 hb2 hg2 hat2))
   go_ret;rw [EM.out];exact u6d0_2
  ·have em:=mx_ge cm;have hw3:=HW3.out;rw [em] at hw3;have EM:=a_ em;clear em;go_wp2;go_quiet (fail)
   generalize hgq:wr.drewN nq=ws;replace BQ:=a_ (blk_at hgq BQ.out);replace BX:=a_ (blk_at hgq BX.out);replace OF:=a_ (pw_own_below OF.out (below_at hgq (Below.refl _ _)));replace OD:=a_ (pw_own_below OD.out (below_at hgq (Below.refl _ _)));replace HBQ:=a_ (below_at hgq HBQ.out);replace KQ:=a_ (KQ.out.trans (KeepT.below (below_at hgq (Below.refl _ _))));clear hgq;have hq0x:=(blk_cell BQ.out 0).trans rfl;have hq1x:=(blk_cell BQ.out 1).trans rfl;have ha4x:=(blk_cell BX.out 6).trans rfl;have ha5x:=(blk_cell BX.out 7).trans rfl;simp only [List.getElem?_toArray,List.getElem?_cons_zero,List.getElem?_cons_succ] at hq0x hq1x ha4x ha5x
   go_wp2_with (first
    | (at_builtin;refine print_append_num (w0:=w0) w0.heap.size rfl (.tmp 127) (.tmp 129) 23 3 .i64 8 rfl Tryz.underlying23 info3 (by decide) (.slice (some ad5) fs.length cF) fs (rd fs x.f4) rfl (ev_new (by first|rfl|(simp;done))) OF.out HBQ.out (below_size HBQ.out) (by have:=L60.out;omega) ?_;intro v1 w1 ho1 hb1 hg1 hat1;obtain ⟨A1,m1,c1,ev1,M1⟩:=own_form ho1;subst ev1;have B1:=blk_grown BQ.out hg1 (own_ne OF.out BQ.out (by decide));have hd0:=(blk_cell B1 0).trans rfl;have hd1:=(blk_cell B1 1).trans rfl;have he0:=blk_frozen B1 0;have he1:=blk_frozen B1 1;simp only [List.getElem?_toArray,List.getElem?_cons_zero,List.getElem?_cons_succ] at hd0 hd1;have B2:=a_ (blk_put (cs':=#[.slice A1 m1 c1,.slice ((some ad6)) ds.length cD]) B1 0 (.slice A1 m1 c1) rfl);have F2:=a_ (own_setCell (p:=⟨b,0,none⟩) ho1 (own_ne ho1 B1 (by decide)) (.slice A1 m1 c1));have O1:=own_other OD.out hg1 (ne_other NE.out);have O2:=a_ (own_setCell (p:=⟨b,0,none⟩) O1 (own_ne O1 B1 (by decide)) (.slice A1 m1 c1));have HB2:=a_ (below_set (j:=0) (v:=.slice A1 m1 c1) hb1 HWB.out);have K2:=a_ ((KQ.out.trans (KeepT.grown OF.out hg1)).trans (KeepT.set B1 0 (.slice A1 m1 c1)));have N2:=a_ (ne_append NE.out hat1 OD.out);clear B1 O1 ho1 hb1 hg1 hat1)
    | (at_builtin;refine print_append_num (w0:=w0) w0.heap.size rfl (.tmp 137) (.tmp 139) 23 3 .i64 8 rfl Tryz.underlying23 info3 (by decide) (.slice (some ad6) ds.length cD) ds (1+rd ds x.f4) rfl (ev_new (by first|rfl|(simp;done))) O2.out HB2.out (below_size HB2.out) (by have:=L60.out;omega) ?_;intro v2 w2 ho2 hb2 hg2 hat2;obtain ⟨A2,m2,c2,ev2,M2⟩:=own_form ho2;subst ev2;have B3:=a_ (blk_grown B2.out hg2 (own_ne O2.out B2.out (by decide)));have hg0:=(blk_cell B3.out 1).trans rfl;have hh1:=blk_frozen B3.out 1;simp only [List.getElem?_toArray,List.getElem?_cons_zero,List.getElem?_cons_succ] at hg0;have F3:=a_ (own_other F2.out hg2 (ne_other (ne_symm N2.out)));have O3:=a_ ho2;have HB3:=a_ hb2;have K3:=a_ (K2.out.trans (KeepT.grown O2.out hg2));have N3:=a_ (ne_append' N2.out hat2 F2.out);clear ho2 hb2 hg2 hat2))
   go_ret;rw [EM.out];exact u6d0_2
 ·rw [if_neg k0,if_neg k1,if_neg k2] at h
  obtain ⟨rfl,rfl,rfl⟩:r=(false)∧fs'=fs++[(fs.length:Int)]∧ds'=ds++[0]:=by
   have:=Option.some.inj h
   simp only [Prod.mk.injEq] at this;exact ⟨this.1.symm,this.2.1.symm,this.2.2.symm⟩
  clear h;have p0:(x.f0==0)=false:=beq_eq_false_iff_ne.mpr k0
  have p1:(x.f0==1)=false:=beq_eq_false_iff_ne.mpr k1
  have p2:(x.f0==2)=false:=beq_eq_false_iff_ne.mpr k2
  clear k0 k1 k2;have BQ:=a_ (blk_alloc HT.out.1 (.cells #[.int .i64 x.f0,.int .u8 x.f1,.string x.f2,.int .i64 x.f3.f0,.int .i64 x.f3.f1,.string x.f3.f2,.int .i64 x.f4,.int .i64 x.f5] 106));have OF:=a_ (own_alloc HT.out.2.1 (.cells #[.int .i64 x.f0,.int .u8 x.f1,.string x.f2,.int .i64 x.f3.f0,.int .i64 x.f3.f1,.string x.f3.f2,.int .i64 x.f4,.int .i64 x.f5] 106));have OD:=a_ (own_alloc HT.out.2.2.1 (.cells #[.int .i64 x.f0,.int .u8 x.f1,.string x.f2,.int .i64 x.f3.f0,.int .i64 x.f3.f1,.string x.f3.f2,.int .i64 x.f4,.int .i64 x.f5] 106));have HBQ:=a_ (below_alloc HB.out (.cells #[.int .i64 x.f0,.int .u8 x.f1,.string x.f2,.int .i64 x.f3.f0,.int .i64 x.f3.f1,.string x.f3.f2,.int .i64 x.f4,.int .i64 x.f5] 106));have KQ:=a_ (KeepT.below (below_alloc (Below.refl _ w) (.cells #[.int .i64 x.f0,.int .u8 x.f1,.string x.f2,.int .i64 x.f3.f0,.int .i64 x.f3.f1,.string x.f3.f2,.int .i64 x.f4,.int .i64 x.f5] 106)));go_enter Tryz.func97,Tryz.ntmps97;exact u6d0_1
end Go.Proofs.YtejjlkbbnhpbdaaGreat.P
namespace Go.Proofs.YtejjlkbbnhpbdaaGreat.P
open Go.Proofs.YtejjlkbbnhpbdaaGreatX
open Go.RowKit Go.Proofs.YtejjlkbbnhpbdaaGreatW.PrintWords Go.Proofs.YtejjlkbbnhpbdaaGreatW.PrintLast Go.Proofs.YtejjlkbbnhpbdaaGreatW.PrintMore
attribute [local go_sem] max2_int min2_int max_two min_two max_three min_three max_four min_four
set_option linter.unusedVariables false
set_option linter.unusedSimpArgs false
open Go.Proofs.YtejjlkbbnhpbdaaGreatX
def impl_Action_good.g (fs:List Int):List Int→Int→Option (Bool×Int)
 | [],n=>some (true,n)
 | x::xs,n=>if 0≤x∧x<(fs.length:Int) then (if rd fs x=n then impl_Action_good.g fs xs (x+1) else some (false,n)) else some (false,n)
def impl_Action_good.f (fs:List Int) (kd K:Int) (cls:ByteArray) (xs:List Int) (n:Int):Option (Bool×Int):=
 if kd=1 then (if goodClsB cls=true then (if K=0 then (if 6<xs.length then some (false,n) else impl_Action_good.g fs xs n) else some (false,n)) else some (false,n)) else
 if kd=2 then (if cls.toList=[] then (if K < -1000000 then some (false,n) else if 1000000<K then some (false,n) else if xs=[] then some (true,n) else some (false,n)) else some (false,n)) else
 if kd=3 then (if cls.toList=[] then (if K < -1000000 then some (false,n) else if 1000000<K then some (false,n) else if 6<xs.length then some (false,n) else impl_Action_good.g fs xs n) else some (false,n)) else
 if kd=4 then (if cls.toList=[] then (if K=0 then (if xs=[] then some (true,n) else some (false,n)) else some (false,n)) else some (false,n)) else some (false,n)
theorem ag_ba {a:ByteArray} (h:a.toList=[]):a=⟨#[]⟩:=by
 rw [ByteArray.toList_eq] at h;cases a with|mk x=>
 exact congrArg ByteArray.mk (Array.toList_eq_nil_iff.1 h)
theorem ag_g_cons (fs xs:List Int) (n:Int) (i:Nat) (h:i<xs.length) (p:Bool×Int) (hg:impl_Action_good.g fs (xs.drop i) n=some p):(if 0≤rd xs (i:Int)∧rd xs (i:Int)<(fs.length:Int) then (if rd fs (rd xs (i:Int))=n then impl_Action_good.g fs (xs.drop (i+1)) (rd xs (i:Int)+1) else some (false,n)) else some (false,n))=some p:=by
 have e:rd xs (i:Int)=xs[i]:=by
  unfold rd
  simp [h]
 rw [List.drop_eq_getElem_cons h] at hg;unfold impl_Action_good.g at hg
 rw [e];exact hg
theorem ua32_3 {p:Prop} (h:p:=by
 clear c4;have HNA:=a_ (blk_alloc (blk_alloc HN.out (.cells #[.int .i64 4,.int .i64 0,.string (⟨#[]⟩:ByteArray),.slice B xs.length cB] 108)) (.cells #[.int .i64 4,.int .i64 0,.string (⟨#[]⟩:ByteArray),.slice none 0 0] 108));have HG:=a_ ((World.grownBy_alloc w (.cells #[.int .i64 4,.int .i64 0,.string (⟨#[]⟩:ByteArray),.slice B xs.length cB] 108) (some b)).trans (World.grownBy_alloc _ (.cells #[.int .i64 4,.int .i64 0,.string (⟨#[]⟩:ByteArray),.slice none 0 0] 108) (some b)));go_enter Tryz.func98,Tryz.ntmps98;go_wp2;go_ret;exact ⟨rfl,HNA.out,HG.out,HG.out.size⟩):p:=h
theorem ua32_2 {p:Prop} (h:p:=by
 clear c4;have HNA:=a_ (blk_alloc (blk_alloc HN.out (.cells #[.int .i64 2,.int .i64 K,.string (⟨#[]⟩:ByteArray),.slice B xs.length cB] 108)) (.cells #[.int .i64 2,.int .i64 K,.string (⟨#[]⟩:ByteArray),.slice none 0 0] 108));have HG:=a_ ((World.grownBy_alloc w (.cells #[.int .i64 2,.int .i64 K,.string (⟨#[]⟩:ByteArray),.slice B xs.length cB] 108) (some b)).trans (World.grownBy_alloc _ (.cells #[.int .i64 2,.int .i64 K,.string (⟨#[]⟩:ByteArray),.slice none 0 0] 108) (some b)));go_enter Tryz.func98,Tryz.ntmps98;go_wp2;go_ret;exact ⟨rfl,HNA.out,HG.out,HG.out.size⟩):p:=h
theorem ua32_0 {p:Prop} (h:p:=by
 go_loopg [77] xs.length (fun gg v77 wr=>∃(i:Nat) (m:Int),i≤xs.length∧xs.length-i≤gg∧v77=.int .i64 (i:Int)∧Aside0 (impl_Action_good.g fs (xs.drop i) m=some (r,n'))∧Aside0 (wr.heap[b]?=some (.cells #[.int .i64 m] 3 (0,0)))∧Aside0 (w.grownBy wr (some b)))
 case atStart=>exact ⟨0,n,Nat.zero_le _,Nat.le_refl _,rfl,HH,HNA,HG⟩
 obtain ⟨i,m,hi,hgg,rfl,HH2,HN2,HG2⟩:=hrel;by_cases hlt:i<xs.length
 ·have hz:(i:Int)<(xs.length:Int):=by omega
  have hz0:(0:Int)≤(i:Int):=by omega
  have HW:Aside0 (Below w0.heap.size w0 wr):=⟨HB.out.grown HG2.out HB.out.size (by intro q e;injection e with e;have:=HB0.out;omega)⟩
  obtain ⟨ad,eA,hx⟩:=Kd.at_int HX.out (i:Int) hz0 hz;subst eA;replace hx:=(HW.out.cell (World.block_lt_of_cell? w0 _ hx)).trans hx;have hstep:=ag_g_cons fs xs m i hlt _ HH2.out;have hn0:=cell_of_one HN2.out;have hnf:=free_of_one HN2.out;have hT2:=blk_grown HT.out HG2.out (by intro e;injection e with e;exact HBT.out e);have hF2:=own_other HF.out HG2.out (Or.inr (fun e=>HNE.out e.symm));have ht0:=(blk_cell hT2 0).trans rfl;simp only [List.getElem?_toArray,List.getElem?_cons_zero,List.getElem?_cons_succ] at ht0;have HF2:=a_ hF2;have HFL2:=HFL.out;clear hT2 hF2;simp only [Int.toNat_natCast] at hx;generalize rd xs (i:Int)=x at *;by_cases d1:x<0
  ·rw [if_neg (by omega)] at hstep;cases hstep;have q1:decide (x<0)=true:=decide_eq_true d1
   clear d1;go_wp2;go_quiet (fail)
   go_wp2;go_ret;exact ⟨rfl,blk_drewN HN2.out _,HG2.out.trans (grown_of_below (pw_below_drewN (Below.refl _ _) _) _),HG2.out.size⟩
  by_cases d2:(fs.length:Int)≤x
  ·rw [if_neg (by omega)] at hstep;cases hstep;have q1:decide (x<0)=false:=decide_eq_false d1
   have q2:decide ((fs.length:Int)≤x)=true:=decide_eq_true d2
   clear d1 d2;go_wp2;go_quiet (fail)
   go_wp2;go_ret;exact ⟨rfl,blk_drewN HN2.out _,HG2.out.trans (grown_of_below (pw_below_drewN (Below.refl _ _) _) _),HG2.out.size⟩
  rw [if_pos (by omega)] at hstep;have d1':0≤x:=by omega
  have d2':x<(fs.length:Int):=by omega
  obtain ⟨adf,ef,hy⟩:=(own_reads' HF2.out).at_ x d1' d2';cases ef;have q1:decide (x<0)=false:=decide_eq_false d1
  have q2:decide ((fs.length:Int)≤x)=false:=decide_eq_false d2
  clear d1 d2;by_cases d3:rd fs x=m
  ·rw [if_pos d3] at hstep;have q3:(rd fs x==m)=true:=by simpa using d3
   have q4:(rd fs x != m)=false:=by simpa using d3
   have HS2:=a_ hstep;have D3:=a_ d3;clear hstep d3;go_wp2;go_quiet (fail)
   generalize hq:wr.drewN nq=wq;have HN4:=a_ (blk_at hq HN2.out);have HG4:Aside0 (w.grownBy wq (some b)):=⟨by subst hq;exact HG2.out.trans (grown_of_below (pw_below_drewN (Below.refl _ _) _) _)⟩
   clear hq hn0 hnf ht0 hx hy;have hn4:=cell_of_one HN4.out;have hnf4:=free_of_one HN4.out;go_wp2;go_roundg (xs.length-(i+1))
   case measure=>omega
   case rel=>exact ⟨i+1,_,by omega,by omega,by rw [show wrap64 ((i:Int)+1)=((i+1:Nat):Int) by unfold wrap64;have:=HXL.out;omega],HS2,⟨one_setCell HN4.out⟩,⟨HG4.out.trans (grownBy_setCell' _ _ _)⟩⟩
  ·rw [if_neg d3] at hstep;cases hstep;have q3:(rd fs x==n')=false:=by simpa using d3
   have q4:(rd fs x != n')=true:=by simpa using d3
   clear d3;go_wp2;go_quiet (fail)
   go_wp2;go_ret;exact ⟨rfl,blk_drewN HN2.out _,HG2.out.trans (grown_of_below (pw_below_drewN (Below.refl _ _) _) _),HG2.out.size⟩
 ·have hil:i=xs.length:=by omega
  subst hil;have e0:=HH2.out;rw [List.drop_length] at e0;unfold impl_Action_good.g at e0
  cases e0;clear HH2;go_wp2;go_ret;exact ⟨rfl,HN2.out,HG2.out,HG2.out.size⟩):p:=h
theorem ua32_4 {p:Prop} (h:p:=by
 clear c4;have HNA:=a_ (blk_alloc (blk_alloc HN.out (.cells #[.int .i64 3,.int .i64 K,.string (⟨#[]⟩:ByteArray),.slice B xs.length cB] 108)) (.cells #[.int .i64 3,.int .i64 K,.string (⟨#[]⟩:ByteArray),.slice none 0 0] 108));have HG:=a_ ((World.grownBy_alloc w (.cells #[.int .i64 3,.int .i64 K,.string (⟨#[]⟩:ByteArray),.slice B xs.length cB] 108) (some b)).trans (World.grownBy_alloc _ (.cells #[.int .i64 3,.int .i64 K,.string (⟨#[]⟩:ByteArray),.slice none 0 0] 108) (some b)));go_enter Tryz.func98,Tryz.ntmps98;go_wp2;exact ua32_0):p:=h
theorem ua32_1 {p:Prop} (h:p:=by
 clear c4;go_enter Tryz.func98,Tryz.ntmps98;go_wp2_with (go_at_call 112;refine (impl_goodCls.calls cls true _ HGC.out).mono ?_;rintro e w1 ⟨rfl,hd⟩;have HNA:=a_ (blk_below (blk_alloc (blk_alloc HN.out (.cells #[.int .i64 1,.int .i64 0,.string cls,.slice B xs.length cB] 108)) (.cells #[.int .i64 1,.int .i64 0,.string cls,.slice none 0 0] 108)) hd);have HG:=a_ (((World.grownBy_alloc w (.cells #[.int .i64 1,.int .i64 0,.string cls,.slice B xs.length cB] 108) (some b)).trans (World.grownBy_alloc _ (.cells #[.int .i64 1,.int .i64 0,.string cls,.slice none 0 0] 108) (some b))).trans (grown_of_below hd (some b)));have BA1:=blk_below (blk_alloc (blk_new w (.cells #[.int .i64 1,.int .i64 0,.string cls,.slice B xs.length cB] 108)) (.cells #[.int .i64 1,.int .i64 0,.string cls,.slice none 0 0] 108)) hd;have BP1:=blk_below (blk_new1 w (.cells #[.int .i64 1,.int .i64 0,.string cls,.slice B xs.length cB] 108) (.cells #[.int .i64 1,.int .i64 0,.string cls,.slice none 0 0] 108)) hd;have ha0:=(blk_cell BA1 0).trans rfl;have ha1:=(blk_cell BA1 1).trans rfl;have ha2:=(blk_cell BA1 2).trans rfl;have ha3:=(blk_cell BA1 3).trans rfl;have hp1:=(blk_cell BP1 1).trans rfl;have hp2:=(blk_cell BP1 2).trans rfl;simp only [List.getElem?_toArray,List.getElem?_cons_zero,List.getElem?_cons_succ] at ha0 ha1 ha2 ha3 hp1 hp2;clear hd BA1 BP1);exact ua32_0):p:=h
set_option maxHeartbeats 8000000 in
set_option maxRecDepth 100000 in
theorem impl_Action_good.calls (kd K:Int) (cls:ByteArray) (B:Option Addr) (cB:Nat) (xs:List Int) (bt base:Nat) (AF:Option Addr) (cF:Nat) (vD:Value) (fs:List Int) (b:Nat) (n n':Int) (r:Bool) (w0 w:World) (hB:Below w0.heap.size w0 w) (hrx:Kd.C (Kd.int .i64) w0 B xs.length xs) (ht:w.heap[bt]?=some (.cells #[.slice AF fs.length cF,vD] 148 (0,0))) (hf:w.ownsRow base 3 1 (.slice AF fs.length cF) fs.length (nums .i64 fs)) (hne:some b≠(Value.slice AF fs.length cF).ownBlock) (hbb:w.heap[b]?=some (.cells #[.int .i64 n] 3 (0,0))) (hb0:w0.heap.size≤b) (h:impl_Action_good.f fs kd K cls xs n=some (r,n')):
  Calls Tryz.prog 98 #[.agg #[.int .i64 kd,.int .i64 K,.string cls,.slice B xs.length cB],.pointer (some ⟨bt,0,none⟩),.pointer (some ⟨b,0,none⟩)] w fun e w'=>e=.returned (.bool r)∧w'.heap[b]?=some (.cells #[.int .i64 n'] 3 (0,0))∧w.grownBy w' (some b)∧w.heap.size≤w'.heap.size:=by
 have hu2:=Tryz.underlying108;have hu3:=Tryz.underlying148;have HB:=a_ hB;have HX:=a_ hrx;have HB0:=a_ hb0;have HT:=a_ ht;have HF:=a_ hf;have HNE:=a_ hne;have HN:=a_ hbb;have HBT:Aside0 (bt≠b):=⟨blk_ne ht hbb (by decide)⟩
 have HXL:Aside0 (xs.length≤9223372036854775807):=⟨hrx.2.1⟩
 have HFL:Aside0 (fs.length≤9223372036854775807):=⟨(own_reads' hf).2.1⟩
 clear hB hrx hb0 ht hf hne hbb;unfold impl_Action_good.f at h
 by_cases k1:kd=1
 ·subst k1;rw [if_pos rfl] at h;by_cases c1:goodClsB cls=true
  ·rw [if_pos c1] at h;have HGC:Aside0 (impl_goodCls.f cls=some true):=⟨by rw [goodCls_some,c1]⟩
   clear c1;by_cases c2:K=0
   ·subst c2;rw [if_pos rfl] at h;by_cases c3:6<xs.length
    ·rw [if_pos c3] at h;cases h;have q1:decide ((6:Int)<(xs.length:Int))=true:=decide_eq_true (by omega)
     clear c3;go_enter Tryz.func98,Tryz.ntmps98;go_wp2_with (go_at_call 112;refine (impl_goodCls.calls cls true _ HGC.out).mono ?_;rintro e w1 ⟨rfl,hd⟩;have HNA:=a_ (blk_below (blk_alloc (blk_alloc HN.out (.cells #[.int .i64 1,.int .i64 0,.string cls,.slice B xs.length cB] 108)) (.cells #[.int .i64 1,.int .i64 0,.string cls,.slice none 0 0] 108)) hd);have HG:=a_ (((World.grownBy_alloc w (.cells #[.int .i64 1,.int .i64 0,.string cls,.slice B xs.length cB] 108) (some b)).trans (World.grownBy_alloc _ (.cells #[.int .i64 1,.int .i64 0,.string cls,.slice none 0 0] 108) (some b))).trans (grown_of_below hd (some b)));have BA1:=blk_below (blk_alloc (blk_new w (.cells #[.int .i64 1,.int .i64 0,.string cls,.slice B xs.length cB] 108)) (.cells #[.int .i64 1,.int .i64 0,.string cls,.slice none 0 0] 108)) hd;have BP1:=blk_below (blk_new1 w (.cells #[.int .i64 1,.int .i64 0,.string cls,.slice B xs.length cB] 108) (.cells #[.int .i64 1,.int .i64 0,.string cls,.slice none 0 0] 108)) hd;have ha0:=(blk_cell BA1 0).trans rfl;have ha1:=(blk_cell BA1 1).trans rfl;have ha2:=(blk_cell BA1 2).trans rfl;have ha3:=(blk_cell BA1 3).trans rfl;have hp1:=(blk_cell BP1 1).trans rfl;have hp2:=(blk_cell BP1 2).trans rfl;simp only [List.getElem?_toArray,List.getElem?_cons_zero,List.getElem?_cons_succ] at ha0 ha1 ha2 ha3 hp1 hp2;clear hd BA1 BP1);go_ret;exact ⟨rfl,HNA.out,HG.out,HG.out.size⟩
    ·rw [if_neg c3] at h;have HH:Aside0 (impl_Action_good.g fs (xs.drop 0) n=some (r,n')):=⟨h⟩
     have q1:decide ((6:Int)<(xs.length:Int))=false:=decide_eq_false (by omega)
     clear c3 h;by_cases c4:0<xs.length
     ·have q2:decide ((0:Int)<(xs.length:Int))=true:=decide_eq_true (by omega)
      have q3:decide (0<xs.length)=true:=decide_eq_true (by omega)
      exact ua32_1
     ·have q2:decide ((0:Int)<(xs.length:Int))=false:=decide_eq_false (by omega)
      have q3:decide (0<xs.length)=false:=decide_eq_false (by omega)
      exact ua32_1
   ·rw [if_neg c2] at h;cases h;have q3:((0:Int)==K)=false:=by simpa using Ne.symm c2
    have q4:((0:Int) != K)=true:=by simpa using Ne.symm c2
    clear c2;go_enter Tryz.func98,Tryz.ntmps98;go_wp2_with (go_at_call 112;refine (impl_goodCls.calls cls true _ HGC.out).mono ?_;rintro e w1 ⟨rfl,hd⟩;have HNA:=a_ (blk_below (blk_alloc (blk_alloc HN.out (.cells #[.int .i64 1,.int .i64 K,.string cls,.slice B xs.length cB] 108)) (.cells #[.int .i64 1,.int .i64 0,.string cls,.slice none 0 0] 108)) hd);have HG:=a_ (((World.grownBy_alloc w (.cells #[.int .i64 1,.int .i64 K,.string cls,.slice B xs.length cB] 108) (some b)).trans (World.grownBy_alloc _ (.cells #[.int .i64 1,.int .i64 0,.string cls,.slice none 0 0] 108) (some b))).trans (grown_of_below hd (some b)));have BA1:=blk_below (blk_alloc (blk_new w (.cells #[.int .i64 1,.int .i64 K,.string cls,.slice B xs.length cB] 108)) (.cells #[.int .i64 1,.int .i64 0,.string cls,.slice none 0 0] 108)) hd;have BP1:=blk_below (blk_new1 w (.cells #[.int .i64 1,.int .i64 K,.string cls,.slice B xs.length cB] 108) (.cells #[.int .i64 1,.int .i64 0,.string cls,.slice none 0 0] 108)) hd;have ha0:=(blk_cell BA1 0).trans rfl;have ha1:=(blk_cell BA1 1).trans rfl;have ha2:=(blk_cell BA1 2).trans rfl;have ha3:=(blk_cell BA1 3).trans rfl;have hp1:=(blk_cell BP1 1).trans rfl;have hp2:=(blk_cell BP1 2).trans rfl;simp only [List.getElem?_toArray,List.getElem?_cons_zero,List.getElem?_cons_succ] at ha0 ha1 ha2 ha3 hp1 hp2;clear hd BA1 BP1);go_ret;exact ⟨rfl,HNA.out,HG.out,HG.out.size⟩
  ·rw [if_neg c1] at h;cases h;have HGC:Aside0 (impl_goodCls.f cls=some false):=⟨by rw [goodCls_some,Bool.eq_false_iff.2 c1]⟩
   clear c1;go_enter Tryz.func98,Tryz.ntmps98;go_wp2_with (go_at_call 112;refine (impl_goodCls.calls cls false _ HGC.out).mono ?_;rintro e w1 ⟨rfl,hd⟩;have HNA:=a_ (blk_below (blk_alloc (blk_alloc HN.out (.cells #[.int .i64 1,.int .i64 K,.string cls,.slice B xs.length cB] 108)) (.cells #[.int .i64 1,.int .i64 0,.string cls,.slice none 0 0] 108)) hd);have HG:=a_ (((World.grownBy_alloc w (.cells #[.int .i64 1,.int .i64 K,.string cls,.slice B xs.length cB] 108) (some b)).trans (World.grownBy_alloc _ (.cells #[.int .i64 1,.int .i64 0,.string cls,.slice none 0 0] 108) (some b))).trans (grown_of_below hd (some b)));have BA1:=blk_below (blk_alloc (blk_new w (.cells #[.int .i64 1,.int .i64 K,.string cls,.slice B xs.length cB] 108)) (.cells #[.int .i64 1,.int .i64 0,.string cls,.slice none 0 0] 108)) hd;have BP1:=blk_below (blk_new1 w (.cells #[.int .i64 1,.int .i64 K,.string cls,.slice B xs.length cB] 108) (.cells #[.int .i64 1,.int .i64 0,.string cls,.slice none 0 0] 108)) hd;have ha0:=(blk_cell BA1 0).trans rfl;have ha1:=(blk_cell BA1 1).trans rfl;have ha2:=(blk_cell BA1 2).trans rfl;have ha3:=(blk_cell BA1 3).trans rfl;have hp1:=(blk_cell BP1 1).trans rfl;have hp2:=(blk_cell BP1 2).trans rfl;simp only [List.getElem?_toArray,List.getElem?_cons_zero,List.getElem?_cons_succ] at ha0 ha1 ha2 ha3 hp1 hp2;clear hd BA1 BP1);go_ret;exact ⟨rfl,HNA.out,HG.out,HG.out.size⟩
 by_cases k2:kd=2
 ·subst k2;clear k1;rw [if_neg (by decide),if_pos rfl] at h;by_cases c2:cls.toList=[]
  ·rw [if_pos c2] at h;have c3:cls=⟨#[]⟩:=ag_ba c2
   subst c3;clear c2;by_cases c4:K < -1000000
   ·rw [if_pos c4] at h;cases h;have q4:decide (K < -1000000)=true:=ct_ c4
    clear c4;have HNA:=a_ (blk_alloc (blk_alloc HN.out (.cells #[.int .i64 2,.int .i64 K,.string (⟨#[]⟩:ByteArray),.slice B xs.length cB] 108)) (.cells #[.int .i64 2,.int .i64 K,.string (⟨#[]⟩:ByteArray),.slice none 0 0] 108));have HG:=a_ ((World.grownBy_alloc w (.cells #[.int .i64 2,.int .i64 K,.string (⟨#[]⟩:ByteArray),.slice B xs.length cB] 108) (some b)).trans (World.grownBy_alloc _ (.cells #[.int .i64 2,.int .i64 K,.string (⟨#[]⟩:ByteArray),.slice none 0 0] 108) (some b)));go_enter Tryz.func98,Tryz.ntmps98;go_wp2;go_ret;exact ⟨rfl,HNA.out,HG.out,HG.out.size⟩
   rw [if_neg c4] at h;have q4:decide (K < -1000000)=false:=cf_ c4
   clear c4;by_cases c5:1000000<K
   ·rw [if_pos c5] at h;cases h;have q5:decide (1000000<K)=true:=ct_ c5
    clear c5;have HNA:=a_ (blk_alloc (blk_alloc HN.out (.cells #[.int .i64 2,.int .i64 K,.string (⟨#[]⟩:ByteArray),.slice B xs.length cB] 108)) (.cells #[.int .i64 2,.int .i64 K,.string (⟨#[]⟩:ByteArray),.slice none 0 0] 108));have HG:=a_ ((World.grownBy_alloc w (.cells #[.int .i64 2,.int .i64 K,.string (⟨#[]⟩:ByteArray),.slice B xs.length cB] 108) (some b)).trans (World.grownBy_alloc _ (.cells #[.int .i64 2,.int .i64 K,.string (⟨#[]⟩:ByteArray),.slice none 0 0] 108) (some b)));go_enter Tryz.func98,Tryz.ntmps98;go_wp2;go_ret;exact ⟨rfl,HNA.out,HG.out,HG.out.size⟩
   rw [if_neg c5] at h;have q5:decide (1000000<K)=false:=cf_ c5
   clear c5;by_cases c1:xs=[]
   ·subst c1;rw [if_pos rfl] at h;cases h;have HNA:=a_ (blk_alloc (blk_alloc HN.out (.cells #[.int .i64 2,.int .i64 K,.string (⟨#[]⟩:ByteArray),.slice B 0 cB] 108)) (.cells #[.int .i64 2,.int .i64 K,.string (⟨#[]⟩:ByteArray),.slice none 0 0] 108));have HG:=a_ ((World.grownBy_alloc w (.cells #[.int .i64 2,.int .i64 K,.string (⟨#[]⟩:ByteArray),.slice B 0 cB] 108) (some b)).trans (World.grownBy_alloc _ (.cells #[.int .i64 2,.int .i64 K,.string (⟨#[]⟩:ByteArray),.slice none 0 0] 108) (some b)));go_enter Tryz.func98,Tryz.ntmps98;go_wp2;go_loopg [77] 0 (fun gg v77 wr=>v77=.int .i64 0∧Aside0 (wr.heap[b]?=some (.cells #[.int .i64 n] 3 (0,0)))∧Aside0 (w.grownBy wr (some b)))
    case atStart=>exact ⟨rfl,HNA,HG⟩
    obtain ⟨rfl,HN2,HG2⟩:=hrel;go_wp2;go_ret;exact ⟨rfl,HN2.out,HG2.out,HG2.out.size⟩
   ·rw [if_neg c1] at h;cases h;have c3:0<xs.length:=by cases xs with|nil=>exact absurd rfl c1|cons a l=>simp
    have q2:decide ((0:Int)<(xs.length:Int))=true:=decide_eq_true (by omega)
    have q3:decide (0<xs.length)=true:=ct_ c3
    clear c1 c3;by_cases c4:6<xs.length
    ·have q1:decide ((6:Int)<(xs.length:Int))=true:=decide_eq_true (by omega)
     exact ua32_2
    ·have q1:decide ((6:Int)<(xs.length:Int))=false:=decide_eq_false (by omega)
     exact ua32_2
  ·rw [if_neg c2] at h;cases h;have s1:(cls.toList==([]:List UInt8))=false:=beq_eq_false_iff_ne.mpr c2
   have s2:(([]:List UInt8)==cls.toList)=false:=beq_eq_false_iff_ne.mpr (Ne.symm c2)
   have s3:cls.toList.isEmpty=false:=by simpa using c2
   have s4:(([]:List UInt8) != cls.toList)=true:=bne_iff_ne.mpr (Ne.symm c2)
   have s5:(cls.toList != ([]:List UInt8))=true:=bne_iff_ne.mpr c2
   clear c2;have HNA:=a_ (blk_alloc (blk_alloc HN.out (.cells #[.int .i64 2,.int .i64 K,.string cls,.slice B xs.length cB] 108)) (.cells #[.int .i64 2,.int .i64 K,.string (⟨#[]⟩:ByteArray),.slice none 0 0] 108));have HG:=a_ ((World.grownBy_alloc w (.cells #[.int .i64 2,.int .i64 K,.string cls,.slice B xs.length cB] 108) (some b)).trans (World.grownBy_alloc _ (.cells #[.int .i64 2,.int .i64 K,.string (⟨#[]⟩:ByteArray),.slice none 0 0] 108) (some b)));go_enter Tryz.func98,Tryz.ntmps98;go_wp2;go_ret;exact ⟨rfl,HNA.out,HG.out,HG.out.size⟩
 by_cases k3:kd=3
 ·subst k3;clear k1 k2;rw [if_neg (by decide),if_neg (by decide),if_pos rfl] at h;by_cases c2:cls.toList=[]
  ·rw [if_pos c2] at h;have c3:cls=⟨#[]⟩:=ag_ba c2
   subst c3;clear c2;by_cases c4:K < -1000000
   ·rw [if_pos c4] at h;cases h;have q4:decide (K < -1000000)=true:=ct_ c4
    clear c4;have HNA:=a_ (blk_alloc (blk_alloc HN.out (.cells #[.int .i64 3,.int .i64 K,.string (⟨#[]⟩:ByteArray),.slice B xs.length cB] 108)) (.cells #[.int .i64 3,.int .i64 K,.string (⟨#[]⟩:ByteArray),.slice none 0 0] 108));have HG:=a_ ((World.grownBy_alloc w (.cells #[.int .i64 3,.int .i64 K,.string (⟨#[]⟩:ByteArray),.slice B xs.length cB] 108) (some b)).trans (World.grownBy_alloc _ (.cells #[.int .i64 3,.int .i64 K,.string (⟨#[]⟩:ByteArray),.slice none 0 0] 108) (some b)));go_enter Tryz.func98,Tryz.ntmps98;go_wp2;go_ret;exact ⟨rfl,HNA.out,HG.out,HG.out.size⟩
   rw [if_neg c4] at h;have q4:decide (K < -1000000)=false:=cf_ c4
   clear c4;by_cases c5:1000000<K
   ·rw [if_pos c5] at h;cases h;have q5:decide (1000000<K)=true:=ct_ c5
    clear c5;have HNA:=a_ (blk_alloc (blk_alloc HN.out (.cells #[.int .i64 3,.int .i64 K,.string (⟨#[]⟩:ByteArray),.slice B xs.length cB] 108)) (.cells #[.int .i64 3,.int .i64 K,.string (⟨#[]⟩:ByteArray),.slice none 0 0] 108));have HG:=a_ ((World.grownBy_alloc w (.cells #[.int .i64 3,.int .i64 K,.string (⟨#[]⟩:ByteArray),.slice B xs.length cB] 108) (some b)).trans (World.grownBy_alloc _ (.cells #[.int .i64 3,.int .i64 K,.string (⟨#[]⟩:ByteArray),.slice none 0 0] 108) (some b)));go_enter Tryz.func98,Tryz.ntmps98;go_wp2;go_ret;exact ⟨rfl,HNA.out,HG.out,HG.out.size⟩
   rw [if_neg c5] at h;have q5:decide (1000000<K)=false:=cf_ c5
   clear c5;by_cases c3:6<xs.length
   ·rw [if_pos c3] at h;cases h;have q1:decide ((6:Int)<(xs.length:Int))=true:=decide_eq_true (by omega)
    clear c3;have HNA:=a_ (blk_alloc (blk_alloc HN.out (.cells #[.int .i64 3,.int .i64 K,.string (⟨#[]⟩:ByteArray),.slice B xs.length cB] 108)) (.cells #[.int .i64 3,.int .i64 K,.string (⟨#[]⟩:ByteArray),.slice none 0 0] 108));have HG:=a_ ((World.grownBy_alloc w (.cells #[.int .i64 3,.int .i64 K,.string (⟨#[]⟩:ByteArray),.slice B xs.length cB] 108) (some b)).trans (World.grownBy_alloc _ (.cells #[.int .i64 3,.int .i64 K,.string (⟨#[]⟩:ByteArray),.slice none 0 0] 108) (some b)));go_enter Tryz.func98,Tryz.ntmps98;go_wp2;go_ret;exact ⟨rfl,HNA.out,HG.out,HG.out.size⟩
   ·rw [if_neg c3] at h;have HH:Aside0 (impl_Action_good.g fs (xs.drop 0) n=some (r,n')):=⟨h⟩
    have q1:decide ((6:Int)<(xs.length:Int))=false:=decide_eq_false (by omega)
    clear c3 h;by_cases c4:0<xs.length
    ·have q2:decide ((0:Int)<(xs.length:Int))=true:=decide_eq_true (by omega)
     have q3:decide (0<xs.length)=true:=decide_eq_true (by omega)
     exact ua32_4
    ·have q2:decide ((0:Int)<(xs.length:Int))=false:=decide_eq_false (by omega)
     have q3:decide (0<xs.length)=false:=decide_eq_false (by omega)
     exact ua32_4
  ·rw [if_neg c2] at h;cases h;have s1:(cls.toList==([]:List UInt8))=false:=beq_eq_false_iff_ne.mpr c2
   have s2:(([]:List UInt8)==cls.toList)=false:=beq_eq_false_iff_ne.mpr (Ne.symm c2)
   have s3:cls.toList.isEmpty=false:=by simpa using c2
   have s4:(([]:List UInt8) != cls.toList)=true:=bne_iff_ne.mpr (Ne.symm c2)
   have s5:(cls.toList != ([]:List UInt8))=true:=bne_iff_ne.mpr c2
   clear c2;have HNA:=a_ (blk_alloc (blk_alloc HN.out (.cells #[.int .i64 3,.int .i64 K,.string cls,.slice B xs.length cB] 108)) (.cells #[.int .i64 3,.int .i64 K,.string (⟨#[]⟩:ByteArray),.slice none 0 0] 108));have HG:=a_ ((World.grownBy_alloc w (.cells #[.int .i64 3,.int .i64 K,.string cls,.slice B xs.length cB] 108) (some b)).trans (World.grownBy_alloc _ (.cells #[.int .i64 3,.int .i64 K,.string (⟨#[]⟩:ByteArray),.slice none 0 0] 108) (some b)));go_enter Tryz.func98,Tryz.ntmps98;go_wp2;go_ret;exact ⟨rfl,HNA.out,HG.out,HG.out.size⟩
 by_cases k4:kd=4
 ·subst k4;clear k1 k2 k3;rw [if_neg (by decide),if_neg (by decide),if_neg (by decide),if_pos rfl] at h;by_cases c2:cls.toList=[]
  ·rw [if_pos c2] at h;have c3:cls=⟨#[]⟩:=ag_ba c2
   subst c3;clear c2;by_cases c4:K=0
   rotate_left
   ·rw [if_neg c4] at h;cases h;have q4:((0:Int)==K)=false:=by simpa using Ne.symm c4
    have q5:((0:Int) != K)=true:=by simpa using Ne.symm c4
    clear c4;have HNA:=a_ (blk_alloc (blk_alloc HN.out (.cells #[.int .i64 4,.int .i64 K,.string (⟨#[]⟩:ByteArray),.slice B xs.length cB] 108)) (.cells #[.int .i64 4,.int .i64 0,.string (⟨#[]⟩:ByteArray),.slice none 0 0] 108));have HG:=a_ ((World.grownBy_alloc w (.cells #[.int .i64 4,.int .i64 K,.string (⟨#[]⟩:ByteArray),.slice B xs.length cB] 108) (some b)).trans (World.grownBy_alloc _ (.cells #[.int .i64 4,.int .i64 0,.string (⟨#[]⟩:ByteArray),.slice none 0 0] 108) (some b)));go_enter Tryz.func98,Tryz.ntmps98;go_wp2;go_ret;exact ⟨rfl,HNA.out,HG.out,HG.out.size⟩
   subst c4;rw [if_pos rfl] at h;by_cases c1:xs=[]
   ·subst c1;rw [if_pos rfl] at h;cases h;have HNA:=a_ (blk_alloc (blk_alloc HN.out (.cells #[.int .i64 4,.int .i64 0,.string (⟨#[]⟩:ByteArray),.slice B 0 cB] 108)) (.cells #[.int .i64 4,.int .i64 0,.string (⟨#[]⟩:ByteArray),.slice none 0 0] 108));have HG:=a_ ((World.grownBy_alloc w (.cells #[.int .i64 4,.int .i64 0,.string (⟨#[]⟩:ByteArray),.slice B 0 cB] 108) (some b)).trans (World.grownBy_alloc _ (.cells #[.int .i64 4,.int .i64 0,.string (⟨#[]⟩:ByteArray),.slice none 0 0] 108) (some b)));go_enter Tryz.func98,Tryz.ntmps98;go_wp2;go_loopg [77] 0 (fun gg v77 wr=>v77=.int .i64 0∧Aside0 (wr.heap[b]?=some (.cells #[.int .i64 n] 3 (0,0)))∧Aside0 (w.grownBy wr (some b)))
    case atStart=>exact ⟨rfl,HNA,HG⟩
    obtain ⟨rfl,HN2,HG2⟩:=hrel;go_wp2;go_ret;exact ⟨rfl,HN2.out,HG2.out,HG2.out.size⟩
   ·rw [if_neg c1] at h;cases h;have c3:0<xs.length:=by cases xs with|nil=>exact absurd rfl c1|cons a l=>simp
    have q2:decide ((0:Int)<(xs.length:Int))=true:=decide_eq_true (by omega)
    have q3:decide (0<xs.length)=true:=ct_ c3
    clear c1 c3;by_cases c4:6<xs.length
    ·have q1:decide ((6:Int)<(xs.length:Int))=true:=decide_eq_true (by omega)
     exact ua32_3
    ·have q1:decide ((6:Int)<(xs.length:Int))=false:=decide_eq_false (by omega)
     exact ua32_3
  ·rw [if_neg c2] at h;cases h;have s1:(cls.toList==([]:List UInt8))=false:=beq_eq_false_iff_ne.mpr c2
   have s2:(([]:List UInt8)==cls.toList)=false:=beq_eq_false_iff_ne.mpr (Ne.symm c2)
   have s3:cls.toList.isEmpty=false:=by simpa using c2
   have s4:(([]:List UInt8) != cls.toList)=true:=bne_iff_ne.mpr (Ne.symm c2)
   have s5:(cls.toList != ([]:List UInt8))=true:=bne_iff_ne.mpr c2
   clear c2;have HNA:=a_ (blk_alloc (blk_alloc HN.out (.cells #[.int .i64 4,.int .i64 K,.string cls,.slice B xs.length cB] 108)) (.cells #[.int .i64 4,.int .i64 0,.string (⟨#[]⟩:ByteArray),.slice none 0 0] 108));have HG:=a_ ((World.grownBy_alloc w (.cells #[.int .i64 4,.int .i64 K,.string cls,.slice B xs.length cB] 108) (some b)).trans (World.grownBy_alloc _ (.cells #[.int .i64 4,.int .i64 0,.string (⟨#[]⟩:ByteArray),.slice none 0 0] 108) (some b)));go_enter Tryz.func98,Tryz.ntmps98;go_wp2;go_ret;exact ⟨rfl,HNA.out,HG.out,HG.out.size⟩
 rw [if_neg k1,if_neg k2,if_neg k3,if_neg k4] at h;cases h;have p1:(kd==1)=false:=by simpa using k1
 have p2:(kd==2)=false:=by simpa using k2
 have p3:(kd==3)=false:=by simpa using k3
 have p4:(kd==4)=false:=by simpa using k4
 clear k1 k2 k3 k4;have HNA:=a_ (blk_alloc (blk_alloc HN.out (.cells #[.int .i64 kd,.int .i64 K,.string cls,.slice B xs.length cB] 108)) (.cells #[.int .i64 kd,.int .i64 0,.string (⟨#[]⟩:ByteArray),.slice none 0 0] 108));have HG:=a_ ((World.grownBy_alloc w (.cells #[.int .i64 kd,.int .i64 K,.string cls,.slice B xs.length cB] 108) (some b)).trans (World.grownBy_alloc _ (.cells #[.int .i64 kd,.int .i64 0,.string (⟨#[]⟩:ByteArray),.slice none 0 0] 108) (some b)));go_enter Tryz.func98,Tryz.ntmps98;go_wp2;go_ret;exact ⟨rfl,HNA.out,HG.out,HG.out.size⟩
end Go.Proofs.YtejjlkbbnhpbdaaGreat.P
namespace Go.Proofs.YtejjlkbbnhpbdaaGreat.P
open Go.Proofs.YtejjlkbbnhpbdaaGreatX
open Go.RowKit Go.Proofs.YtejjlkbbnhpbdaaGreatW.PrintWords Go.Proofs.YtejjlkbbnhpbdaaGreatW.PrintLast Go.Proofs.YtejjlkbbnhpbdaaGreatW.PrintMore
attribute [local go_sem] max2_int min2_int max_two min_two max_three min_three max_four min_four
set_option linter.unusedVariables false
set_option linter.unusedSimpArgs false
open Go.Proofs.YtejjlkbbnhpbdaaGreatX
def sf_p:List S101→Nat→Int
 | [],_=>-1
 | p::ps,i=>if goodPatB p.f1 p.f2=true then sf_p ps (i+1) else (i:Int)+1
def sf_e (es:List S106):Nat→List Int→List Int→Option (Int×List Int×List Int)
 | 0,fs,ds=>some (-1,fs,ds)
 | m+1,fs,ds=>(impl_trees_grow.f es fs ds).bind fun y=>if y.1=true then sf_e es m y.2.1 y.2.2 else some ((fs.length:Int)+1,y.2.1,y.2.2)
def sf_a (fs:List Int):List S108→Nat→Int→Option (Int×Int)
 | [],_,n=>some (-1,n)
 | a::as_,i,n=>(impl_Action_good.f fs a.f0 a.f1 a.f2 a.f3 n).bind fun y=>if y.1=true then sf_a fs as_ (i+1) y.2 else some ((i:Int)+1,y.2)
def impl_Rule_shapeFault.f (nm:ByteArray) (sa:Int) (ps:List S101) (es:List S106) (as_:List S108):Option Int:=
 if goodSymB nm=true then (if 6<ps.length then some 0 else if 8<as_.length then some 0 else if 60<es.length then some 0 else
  if sf_p ps 0=-1 then (sf_e es es.length [] []).bind fun e=>if e.1=-1 then (sf_a e.2.1 as_ 0 0).bind fun a=>if a.1=-1 then (if a.2=(es.length:Int) then some (-1) else some ((as_.length:Int)+1)) else some a.1 else some e.1 else some (sf_p ps 0)) else some 0
theorem sf_p_cons (ps:List S101) (i:Nat) (h:i<ps.length) (p:Int) (hg:sf_p (ps.drop i) i=p):(if goodPatB (rd_T101 ps (i:Int)).f1 (rd_T101 ps (i:Int)).f2=true then sf_p (ps.drop (i+1)) (i+1) else (i:Int)+1)=p:=by
 have e:rd_T101 ps (i:Int)=ps[i]:=by
  unfold rd_T101
  simp [h]
 rw [List.drop_eq_getElem_cons h] at hg;unfold sf_p at hg
 rw [e];exact hg
theorem sf_e_cons (es:List S106) (m i:Nat) (h:i<m) (fs ds:List Int) (p:Int×List Int×List Int) (hg:sf_e es (m-i) fs ds=some p):((impl_trees_grow.f es fs ds).bind fun y=>if y.1=true then sf_e es (m-(i+1)) y.2.1 y.2.2 else some ((fs.length:Int)+1,y.2.1,y.2.2))=some p:=by
 rw [show m-i=(m-(i+1))+1 by omega] at hg;exact hg
theorem sf_a_cons (fs:List Int) (as_:List S108) (i:Nat) (n:Int) (h:i<as_.length) (p:Int×Int) (hg:sf_a fs (as_.drop i) i n=some p):((impl_Action_good.f fs (rd_T108 as_ (i:Int)).f0 (rd_T108 as_ (i:Int)).f1 (rd_T108 as_ (i:Int)).f2 (rd_T108 as_ (i:Int)).f3 n).bind fun y=>if y.1=true then sf_a fs (as_.drop (i+1)) (i+1) y.2 else some ((i:Int)+1,y.2))=some p:=by
 have e:rd_T108 as_ (i:Int)=as_[i]:=by
  unfold rd_T108
  simp [h]
 rw [List.drop_eq_getElem_cons h] at hg;unfold sf_a at hg
 rw [e];exact hg
theorem grow_len {es:List S106} {fs ds fs' ds':List Int} {r:Bool} (h:impl_trees_grow.f es fs ds=some (r,fs',ds')):fs'.length=fs.length+1∧ds'.length=ds.length+1:=by
 unfold impl_trees_grow.f at h
 split at h
 ·dsimp only at h
  repeat' split at h
  all_goals first|(cases h;done)|(have:=Option.some.inj h;simp only [Prod.mk.injEq] at this;obtain ⟨_,rfl,rfl⟩:=this;simp)
 ·cases h
set_option maxHeartbeats 8000000 in
set_option maxRecDepth 100000 in
theorem impl_Rule_shapeFault.walk (nm:ByteArray) (sa:Int) (A2:Option Addr) (c2:Nat) (ps:List S101) (A3:Option Addr) (c3:Nat) (es:List S106) (A4:Option Addr) (c4:Nat) (as_:List S108) (r:Int) (w:World) (hr2:Kd.C k101 w A2 ps.length ps) (hr3:Kd.C k106 w A3 es.length es) (hc3:es.length≤c3) (hr4:Kd.C k108 w A4 as_.length as_) (h:impl_Rule_shapeFault.f nm sa ps es as_=some r):
  Calls Tryz.prog 75 #[.agg #[.string nm,.int .i64 sa,.slice A2 ps.length c2,.slice A3 es.length c3,.slice A4 as_.length c4]] w fun e w'=>e=.returned (.int .i64 r)∧Below w.heap.size w w':=by
 have hu:=Tryz.underlying58;have hu2:=Tryz.underlying108;have hu3:=Tryz.underlying101;have hu4:=Tryz.underlying148;have HB:=a_ (below_alloc (Below.refl w.heap.size w) (.cells #[.string nm,.int .i64 sa,.slice A2 ps.length c2,.slice A3 es.length c3,.slice A4 as_.length c4] 58));have BK:=a_ (blk_new w (.cells #[.string nm,.int .i64 sa,.slice A2 ps.length c2,.slice A3 es.length c3,.slice A4 as_.length c4] 58));have HR2:=a_ hr2;have HR3:=a_ hr3;have HC3:=a_ hc3;have HR4:=a_ hr4;clear hr2 hr3 hc3 hr4;unfold impl_Rule_shapeFault.f at h
 cases hg:goodSymB nm with
 | false=>
  rw [hg,if_neg (by simp)] at h;cases h;have HG:Aside0 (impl_goodSym.f nm=some false):=⟨by unfold impl_goodSym.f;rw [hg]⟩
  clear hg;go_enter Tryz.func75,Tryz.ntmps75;go_wp2_with (go_at_call 95;refine (impl_goodSym.calls nm false _ HG.out).mono ?_;rintro e w1 ⟨rfl,hd⟩;have HB1:Aside0 (Below w.heap.size w w1):=⟨below_step HB.out hd⟩;have BK1:=a_ (blk_below BK.out hd);have ha0:=(blk_cell BK1.out 0).trans rfl;have ha1:=(blk_cell BK1.out 1).trans rfl;have ha2:=(blk_cell BK1.out 2).trans rfl;have ha3:=(blk_cell BK1.out 3).trans rfl;have ha4:=(blk_cell BK1.out 4).trans rfl;simp only [List.getElem?_toArray,List.getElem?_cons_zero,List.getElem?_cons_succ] at ha0 ha1 ha2 ha3 ha4;clear hd);go_ret;exact ⟨rfl,HB1.out⟩
 | true=>
 rw [hg,if_pos rfl] at h;have HG:Aside0 (impl_goodSym.f nm=some true):=⟨by unfold impl_goodSym.f;rw [hg]⟩
 clear hg;by_cases c1:6<ps.length
 ·rw [if_pos c1] at h;cases h;have q1:decide ((6:Int)<(ps.length:Int))=true:=decide_eq_true (by omega)
  clear c1;go_enter Tryz.func75,Tryz.ntmps75;go_wp2_with (go_at_call 95;refine (impl_goodSym.calls nm true _ HG.out).mono ?_;rintro e w1 ⟨rfl,hd⟩;have HB1:Aside0 (Below w.heap.size w w1):=⟨below_step HB.out hd⟩;have BK1:=a_ (blk_below BK.out hd);have ha0:=(blk_cell BK1.out 0).trans rfl;have ha1:=(blk_cell BK1.out 1).trans rfl;have ha2:=(blk_cell BK1.out 2).trans rfl;have ha3:=(blk_cell BK1.out 3).trans rfl;have ha4:=(blk_cell BK1.out 4).trans rfl;simp only [List.getElem?_toArray,List.getElem?_cons_zero,List.getElem?_cons_succ] at ha0 ha1 ha2 ha3 ha4;clear hd);go_ret;exact ⟨rfl,HB1.out⟩
 rw [if_neg c1] at h;have q1:decide ((6:Int)<(ps.length:Int))=false:=decide_eq_false (by omega)
 by_cases c2:8<as_.length
 ·rw [if_pos c2] at h;cases h;have q2:decide ((8:Int)<(as_.length:Int))=true:=decide_eq_true (by omega)
  clear c1 c2;go_enter Tryz.func75,Tryz.ntmps75;go_wp2_with (go_at_call 95;refine (impl_goodSym.calls nm true _ HG.out).mono ?_;rintro e w1 ⟨rfl,hd⟩;have HB1:Aside0 (Below w.heap.size w w1):=⟨below_step HB.out hd⟩;have BK1:=a_ (blk_below BK.out hd);have ha0:=(blk_cell BK1.out 0).trans rfl;have ha1:=(blk_cell BK1.out 1).trans rfl;have ha2:=(blk_cell BK1.out 2).trans rfl;have ha3:=(blk_cell BK1.out 3).trans rfl;have ha4:=(blk_cell BK1.out 4).trans rfl;simp only [List.getElem?_toArray,List.getElem?_cons_zero,List.getElem?_cons_succ] at ha0 ha1 ha2 ha3 ha4;clear hd);go_ret;exact ⟨rfl,HB1.out⟩
 rw [if_neg c2] at h;have q2:decide ((8:Int)<(as_.length:Int))=false:=decide_eq_false (by omega)
 by_cases c3:60<es.length
 ·rw [if_pos c3] at h;cases h;have q3:decide ((60:Int)<(es.length:Int))=true:=decide_eq_true (by omega)
  clear c1 c2 c3;go_enter Tryz.func75,Tryz.ntmps75;go_wp2_with (go_at_call 95;refine (impl_goodSym.calls nm true _ HG.out).mono ?_;rintro e w1 ⟨rfl,hd⟩;have HB1:Aside0 (Below w.heap.size w w1):=⟨below_step HB.out hd⟩;have BK1:=a_ (blk_below BK.out hd);have ha0:=(blk_cell BK1.out 0).trans rfl;have ha1:=(blk_cell BK1.out 1).trans rfl;have ha2:=(blk_cell BK1.out 2).trans rfl;have ha3:=(blk_cell BK1.out 3).trans rfl;have ha4:=(blk_cell BK1.out 4).trans rfl;simp only [List.getElem?_toArray,List.getElem?_cons_zero,List.getElem?_cons_succ] at ha0 ha1 ha2 ha3 ha4;clear hd);go_ret;exact ⟨rfl,HB1.out⟩
 rw [if_neg c3] at h;have q3:decide ((60:Int)<(es.length:Int))=false:=decide_eq_false (by omega)
 have C1:Aside0 (ps.length≤6):=⟨by omega⟩
 have C2:Aside0 (as_.length≤8):=⟨by omega⟩
 have C3:Aside0 (es.length≤60):=⟨by omega⟩
 clear c1 c2 c3;obtain ⟨p,hp⟩:∃p,sf_p ps 0=p:=⟨_,rfl⟩;rw [hp] at h;have HP:Aside0 (sf_p (ps.drop 0) 0=p):=⟨hp⟩
 have HH:=a_ h;clear hp h;go_enter Tryz.func75,Tryz.ntmps75;go_wp2_with (go_at_call 95;refine (impl_goodSym.calls nm true _ HG.out).mono ?_;rintro e w1 ⟨rfl,hd⟩;have HB1:Aside0 (Below w.heap.size w w1):=⟨below_step HB.out hd⟩;have BK1:=a_ (blk_below BK.out hd);have ha0:=(blk_cell BK1.out 0).trans rfl;have ha1:=(blk_cell BK1.out 1).trans rfl;have ha2:=(blk_cell BK1.out 2).trans rfl;have ha3:=(blk_cell BK1.out 3).trans rfl;have ha4:=(blk_cell BK1.out 4).trans rfl;simp only [List.getElem?_toArray,List.getElem?_cons_zero,List.getElem?_cons_succ] at ha0 ha1 ha2 ha3 ha4;clear hd);go_loopg [35] ps.length (fun gg v35 wr=>∃i:Nat,i≤ps.length∧ps.length-i≤gg∧v35=.int .i64 (i:Int)∧Aside0 (sf_p (ps.drop i) i=p)∧Aside0 (Below w.heap.size w wr)∧Aside0 (wr.heap[w.heap.size]?=some (.cells #[.string nm,.int .i64 sa,.slice A2 ps.length c2,.slice A3 es.length c3,.slice A4 as_.length c4] 58 (0,0))))
 case atStart=>exact ⟨0,Nat.zero_le _,Nat.le_refl _,rfl,HP,HB1,BK1⟩
 obtain ⟨i,hi,hgg,rfl,HP2,HB2,BK2⟩:=hrel;by_cases hlt:i<ps.length
 ·have hz:(i:Int)<(ps.length:Int):=by omega
  have hz0:(0:Int)≤(i:Int):=by omega
  obtain ⟨ad,A5,c5,e0,hx0,hx1,hx2,hl5,hC5⟩:=at_T101 HR2.out (i:Int) hz0 hz;cases e0;replace hx0:=(HB2.out.cell (World.block_lt_of_cell? w _ hx0)).trans hx0;replace hx1:=(HB2.out.cell (World.block_lt_of_cell? w _ hx1)).trans hx1;replace hx2:=(HB2.out.cell (World.block_lt_of_cell? w _ hx2)).trans hx2;simp only [Int.toNat_natCast] at hx0 hx1 hx2;have HC5:=a_ hC5;have HL5:=a_ hl5;clear hC5 hl5;have hst:=sf_p_cons ps i hlt p HP2.out;generalize rd_T101 ps (i:Int)=p5 at *;cases hg5:goodPatB p5.f1 p5.f2 with
  | false=>
   have HG5:Aside0 (impl_Pattern_good.f p5.f0 p5.f1 p5.f2=some false):=⟨by unfold impl_Pattern_good.f;rw [hg5]⟩
   rw [hg5,if_neg (by simp)] at hst;clear hg5;have hrr:=HH.out;rw [if_neg (by omega)] at hrr;have hr2:=Option.some.inj hrr;subst hr2;have HPI:Aside0 ((i:Int)+1=p):=⟨hst⟩
   clear hst hrr;go_wp2_with (go_at_call 96;refine (impl_Pattern_good.calls p5.f0 p5.f1 A5 c5 p5.f2 false _ (Kd.C_below HC5.out (by repeat (first|exact HB2.out|apply below_alloc))) HL5.out HG5.out).mono ?_;rintro e w3 ⟨rfl,hd⟩;have HB3:Aside0 (Below w.heap.size w w3):=⟨below_step (by repeat (first|exact HB2.out|apply below_alloc)) hd⟩;clear hd);go_ret;exact ⟨by rw [←HPI.out,show wrap64 ((i:Int)+1)=(i:Int)+1 by unfold wrap64;have:=C1.out;omega];rfl,HB3.out⟩
  | true=>
   have HG5:Aside0 (impl_Pattern_good.f p5.f0 p5.f1 p5.f2=some true):=⟨by unfold impl_Pattern_good.f;rw [hg5]⟩
   rw [hg5,if_pos rfl] at hst;clear hg5;have HST:=a_ hst;clear hst;go_wp2_with (go_at_call 96;refine (impl_Pattern_good.calls p5.f0 p5.f1 A5 c5 p5.f2 true _ (Kd.C_below HC5.out (by repeat (first|exact HB2.out|apply below_alloc))) HL5.out HG5.out).mono ?_;rintro e w3 ⟨rfl,hd⟩;have HB3:Aside0 (Below w.heap.size w w3):=⟨below_step (by repeat (first|exact HB2.out|apply below_alloc)) hd⟩;have BK3:=a_ (blk_below (blk_alloc BK2.out (.cells #[.bool p5.f0,.string p5.f1,.slice A5 p5.f2.length c5] 101)) hd);clear hd);go_roundg (ps.length-(i+1))
   case measure=>omega
   case rel=>exact ⟨i+1,by omega,by omega,by rw [show wrap64 ((i:Int)+1)=((i+1:Nat):Int) by unfold wrap64;have:=C1.out;omega],HST,HB3,BK3⟩
 ·have hil:i=ps.length:=by omega
  subst hil;have e0:=HP2.out;rw [List.drop_length] at e0;unfold sf_p at e0
  subst e0;have h2:=HH.out;rw [if_pos rfl] at h2;obtain ⟨ee,he,h2⟩:=Option.bind_eq_some_iff.1 h2;have HE:Aside0 (sf_e es (es.length-0) [] []=some ee):=⟨he⟩
  have HH2:=a_ h2;clear he h2 HP2 HH HP;obtain ⟨wq,hwq⟩:∃x,x=wr:=⟨_,rfl⟩;subst hwq;have hs0:w.heap.size+1≤wq.heap.size:=lt_of_block BK2.out
  have HS0:=a_ hs0;have ha3':=(blk_cell BK2.out 3).trans rfl;have hb3':=(blk_cell (blk_alloc BK2.out (.cells #[.slice none 0 0,.slice none 0 0] 148)) 3).trans rfl;simp only [List.getElem?_toArray,List.getElem?_cons_zero,List.getElem?_cons_succ] at ha3' hb3';go_wp2;go_loopg [51] es.length (fun gg v51 wr=>∃(i:Nat) (fs ds:List Int),i≤es.length∧es.length-i≤gg∧v51=.int .i64 (i:Int)∧Aside0 (i=fs.length∧sf_e es (es.length-i) fs ds=some ee)∧Aside0 (Below w.heap.size w wr)∧Aside0 (wr.heap[w.heap.size]?=some (.cells #[.string nm,.int .i64 sa,.slice A2 ps.length c2,.slice A3 es.length c3,.slice A4 as_.length c4] 58 (0,0)))∧Aside0 (Trees wr wq.heap.size w.heap.size fs ds)∧Aside0 (wq.heap.size<wr.heap.size))
  case atStart=>exact ⟨0,[],[],Nat.zero_le _,Nat.le_refl _,rfl,⟨rfl,HE.out⟩,⟨below_alloc HB2.out _⟩,⟨blk_alloc BK2.out _⟩,⟨_,_,blk_new wq _,own_nil _ _ _ _,own_nil _ _ _ _,ne_nil _⟩,⟨by simp⟩⟩
  obtain ⟨i,fs,ds,hi,hgg,rfl,HE2,HB4,BK4,TR4,SZ4⟩:=hrel;have hb0:=(blk_cell BK4.out 3).trans rfl;simp only [List.getElem?_toArray,List.getElem?_cons_zero,List.getElem?_cons_succ] at hb0;by_cases hlt:i<es.length
  ·have hz:(i:Int)<(es.length:Int):=by omega
   have hst:=sf_e_cons es es.length i hlt fs ds ee HE2.out.2;obtain ⟨⟨g5,fs5,ds5⟩,hg5,hst⟩:=Option.bind_eq_some_iff.1 hst;have HG5:=a_ hg5;have HL5:=a_ (grow_len hg5);clear hg5;cases g5 with
   | false=>
    rw [if_neg (by simp)] at hst;have hpi:=Option.some.inj hst;have hrr:=HH2.out;rw [←hpi] at hrr;have hn1:¬((fs.length:Int)+1=-1):=by omega
    replace hrr:(if (fs.length:Int)+1=-1 then _ else some ((fs.length:Int)+1))=some r:=hrr
    rw [if_neg hn1] at hrr;have hr2:=Option.some.inj hrr;have HPI:Aside0 ((i:Int)+1=r):=⟨by rw [HE2.out.1];exact hr2⟩
    clear hst hpi hrr hr2 hn1;go_wp2_with (go_at_call 97;refine (impl_trees_grow.calls A3 c3 es wq.heap.size fs ds fs5 ds5 false w _ HB4.out HR3.out HC3.out TR4.out (Nat.le_of_succ_le HS0.out) HG5.out).mono ?_;rintro e w3 ⟨rfl,htr,hbw,hkt⟩;have HB5:=a_ hbw;clear htr hbw hkt);go_ret;exact ⟨by rw [←HPI.out,show wrap64 ((i:Int)+1)=(i:Int)+1 by unfold wrap64;have:=C3.out;omega];rfl,HB5.out⟩
   | true=>
    rw [if_pos rfl] at hst;have HST:Aside0 (i+1=fs5.length∧sf_e es (es.length-(i+1)) fs5 ds5=some ee):=⟨by have:=HL5.out.1;have:=HE2.out.1;omega,hst⟩
    clear hst;go_wp2_with (go_at_call 97;refine (impl_trees_grow.calls A3 c3 es wq.heap.size fs ds fs5 ds5 true w _ HB4.out HR3.out HC3.out TR4.out (Nat.le_of_succ_le HS0.out) HG5.out).mono ?_;rintro e w3 ⟨rfl,htr,hbw,hkt⟩;have HB5:=a_ hbw;have TR5:=a_ htr;have BK5:=a_ (hkt.2 _ _ _ (by decide) (by decide) BK4.out);have SZ5:=a_ (Nat.lt_of_lt_of_le SZ4.out hkt.1);clear htr hbw hkt);go_roundg (es.length-(i+1))
    case measure=>omega
    case rel=>exact ⟨i+1,fs5,ds5,by omega,by omega,by rw [show wrap64 ((i:Int)+1)=((i+1:Nat):Int) by unfold wrap64;have:=C3.out;omega],HST,HB5,BK5,TR5,SZ5⟩
  ·have hil:i=es.length:=by omega
   subst hil;have e0:=HE2.out.2;rw [Nat.sub_self] at e0;unfold sf_e at e0
   have e1:=Option.some.inj e0;subst e1;have h3:=HH2.out;rw [if_pos rfl] at h3;obtain ⟨aa,haa,h3⟩:=Option.bind_eq_some_iff.1 h3;have HA:Aside0 (sf_a fs (as_.drop 0) 0 0=some aa):=⟨haa⟩
   have HH3:=a_ h3;clear haa h3 e0 HE2 HH2 HE;obtain ⟨wp,hwp⟩:∃x,x=wr:=⟨_,rfl⟩;subst hwp;have htr:=TR4.out;obtain ⟨vF,vD,hbt,hoF,hoD,hne⟩:=htr;obtain ⟨AF,cF,eF⟩:=own_slice hoF;subst eF;have hs1:w.heap.size+1≤wp.heap.size:=lt_of_block BK4.out
   have HS1:=a_ hs1;have HBT:=a_ (blk_alloc hbt (.cells #[.int .i64 0] 3));have HOF:=a_ (own_alloc hoF (.cells #[.int .i64 0] 3));have HNE:Aside0 (some wp.heap.size≠(Value.slice AF fs.length cF).ownBlock):=⟨fun e=>by have:=own_lt hoF _ e.symm;omega⟩
   clear hbt hoF hoD hne hs1;have hb4:=(blk_cell BK4.out 4).trans rfl;have hb5:=(blk_cell (blk_alloc BK4.out (.cells #[.int .i64 0] 3)) 4).trans rfl;simp only [List.getElem?_toArray,List.getElem?_cons_zero,List.getElem?_cons_succ] at hb4 hb5;go_wp2;go_loopg [65] as_.length (fun gg v65 wr=>∃(i:Nat) (m:Int),i≤as_.length∧as_.length-i≤gg∧v65=.int .i64 (i:Int)∧Aside0 (sf_a fs (as_.drop i) i m=some aa)∧Aside0 (wr.heap[wp.heap.size]?=some (.cells #[.int .i64 m] 3 (0,0)))∧Aside0 ((wp.alloc (.cells #[.int .i64 0] 3)).grownBy wr (some wp.heap.size)))
   case atStart=>exact ⟨0,0,Nat.zero_le _,Nat.le_refl _,rfl,HA,⟨blk_new wp _⟩,⟨World.grownBy.refl _ _⟩⟩
   obtain ⟨i,m,hi,hgg,rfl,HA2,BN6,HG6⟩:=hrel;have HB6:Aside0 (Below w.heap.size w wr):=⟨(below_alloc HB4.out _).grown HG6.out (by have:=HS1.out;simp;omega) (by intro q e;injection e with e;have:=HS1.out;omega)⟩
   have BK6:=a_ (blk_grown (blk_alloc BK4.out _) HG6.out (by intro e;injection e with e;have:=HS1.out;omega));have BT6:=a_ (blk_grown HBT.out HG6.out (by intro e;injection e with e;have:=SZ4.out;omega));have OF6:=a_ (own_other HOF.out HG6.out (Or.inr (fun e=>HNE.out e.symm)));have hd0:=(blk_cell BK6.out 0).trans rfl;have hd1:=(blk_cell BK6.out 1).trans rfl;have hd2:=(blk_cell BK6.out 2).trans rfl;have hd3:=(blk_cell BK6.out 3).trans rfl;have hd4:=(blk_cell BK6.out 4).trans rfl;simp only [List.getElem?_toArray,List.getElem?_cons_zero,List.getElem?_cons_succ] at hd0 hd1 hd2 hd3 hd4;have hn6:=cell_of_one BN6.out;have hs6:w.heap.size+1≤wr.heap.size:=lt_of_block BK6.out
   have hs7:wp.heap.size+1≤wr.heap.size:=lt_of_block BN6.out
   by_cases hlt:i<as_.length
   ·have hz:(i:Int)<(as_.length:Int):=by omega
    have hz0:(0:Int)≤(i:Int):=by omega
    obtain ⟨ad,A7,c7,e0,hx0,hx1,hx2,hx3,hl7,hC7⟩:=at_T108 HR4.out (i:Int) hz0 hz;cases e0;replace hx0:=(HB6.out.cell (World.block_lt_of_cell? w _ hx0)).trans hx0;replace hx1:=(HB6.out.cell (World.block_lt_of_cell? w _ hx1)).trans hx1;replace hx2:=(HB6.out.cell (World.block_lt_of_cell? w _ hx2)).trans hx2;replace hx3:=(HB6.out.cell (World.block_lt_of_cell? w _ hx3)).trans hx3;simp only [Int.toNat_natCast] at hx0 hx1 hx2 hx3;have HC7:=a_ hC7;have hst:=sf_a_cons fs as_ i m hlt aa HA2.out;clear hC7 hl7;generalize rd_T108 as_ (i:Int)=a7 at *;obtain ⟨⟨g7,m7⟩,hg7,hst⟩:=Option.bind_eq_some_iff.1 hst;have HG7:=a_ hg7;clear hg7;cases g7 with
    | false=>
     rw [if_neg (by simp)] at hst;have hpi:=Option.some.inj hst;have hrr:=HH3.out;rw [←hpi] at hrr;have hn1:¬((i:Int)+1=-1):=by omega
     replace hrr:(if (i:Int)+1=-1 then _ else some ((i:Int)+1))=some r:=hrr
     rw [if_neg hn1] at hrr;have hr2:=Option.some.inj hrr;have HPI:Aside0 ((i:Int)+1=r):=⟨hr2⟩
     clear hst hpi hrr hr2 hn1;go_wp2_with (go_at_call 98;refine (impl_Action_good.calls a7.f0 a7.f1 a7.f2 A7 c7 a7.f3 wq.heap.size w.heap.size AF cF vD fs wp.heap.size m m7 false w _ (below_alloc HB6.out _) HC7.out (blk_alloc BT6.out _) (own_alloc OF6.out _) HNE.out (blk_alloc BN6.out _) (Nat.le_of_succ_le HS1.out) HG7.out).mono ?_;rintro e w7 ⟨rfl,hbn,hgr,hsz⟩;have HB8:Aside0 (Below w.heap.size w w7):=⟨(below_alloc HB6.out _).grown hgr (by simp;omega) (by intro q e;injection e with e;have:=HS1.out;omega)⟩;clear hbn hgr hsz);go_ret;exact ⟨by rw [←HPI.out,show wrap64 ((i:Int)+1)=(i:Int)+1 by unfold wrap64;have:=C2.out;omega];rfl,HB8.out⟩
    | true=>
     rw [if_pos rfl] at hst;have HST:=a_ hst;clear hst;go_wp2_with (go_at_call 98;refine (impl_Action_good.calls a7.f0 a7.f1 a7.f2 A7 c7 a7.f3 wq.heap.size w.heap.size AF cF vD fs wp.heap.size m m7 true w _ (below_alloc HB6.out _) HC7.out (blk_alloc BT6.out _) (own_alloc OF6.out _) HNE.out (blk_alloc BN6.out _) (Nat.le_of_succ_le HS1.out) HG7.out).mono ?_;rintro e w7 ⟨rfl,hbn,hgr,hsz⟩;have BN8:=a_ hbn;have HG8:=a_ ((HG6.out.trans (World.grownBy_alloc _ _ _)).trans hgr);clear hbn hgr hsz);go_roundg (as_.length-(i+1))
     case measure=>omega
     case rel=>exact ⟨i+1,m7,by omega,by omega,by rw [show wrap64 ((i:Int)+1)=((i+1:Nat):Int) by unfold wrap64;have:=C2.out;omega],HST,BN8,HG8⟩
   ·have hil:i=as_.length:=by omega
    subst hil;have e0:=HA2.out;rw [List.drop_length] at e0;unfold sf_a at e0
    have e1:=Option.some.inj e0;subst e1;have h4:=HH3.out;rw [if_pos rfl] at h4;clear e0 HA2 HH3 HA;by_cases d1:m=(es.length:Int)
    ·subst d1;rw [if_pos rfl] at h4;cases h4;go_wp2;go_ret;exact ⟨rfl,HB6.out⟩
    ·rw [if_neg d1] at h4;have h5:=Option.some.inj h4;subst h5;have q7:(m==(es.length:Int))=false:=by simpa using d1
     have q8:(m != (es.length:Int))=true:=by simpa using d1
     clear d1 h4;go_wp2;go_ret;exact ⟨by rw [show wrap64 ((as_.length:Int)+1)=(as_.length:Int)+1 by unfold wrap64;have:=C2.out;omega];rfl,HB6.out⟩
theorem impl_Rule_shapeFault.calls (a0_0:ByteArray) (a0_1:Int) (A0_2:Option Addr) (c0_2:Nat) (l0_2:List S101) (A0_3:Option Addr) (c0_3:Nat) (l0_3:List S106) (A0_4:Option Addr) (c0_4:Nat) (l0_4:List S108) (r:Int) (w:World) (hr0_2:Kd.C k101 w A0_2 l0_2.length l0_2) (hc0_2:l0_2.length≤c0_2) (hr0_3:Kd.C k106 w A0_3 l0_3.length l0_3) (hc0_3:l0_3.length≤c0_3) (hr0_4:Kd.C k108 w A0_4 l0_4.length l0_4) (hc0_4:l0_4.length≤c0_4) (h:impl_Rule_shapeFault.f a0_0 a0_1 l0_2 l0_3 l0_4=some r):
  Calls Tryz.prog 75 #[.agg #[.string a0_0,.int .i64 a0_1,.slice A0_2 l0_2.length c0_2,.slice A0_3 l0_3.length c0_3,.slice A0_4 l0_4.length c0_4]] w fun e w'=>e=.returned (.int .i64 r)∧Below w.heap.size w w':=
 impl_Rule_shapeFault.walk a0_0 a0_1 A0_2 c0_2 l0_2 A0_3 c0_3 l0_3 A0_4 c0_4 l0_4 r w hr0_2 hr0_3 hc0_3 hr0_4 h
end Go.Proofs.YtejjlkbbnhpbdaaGreat.P
namespace Go.Proofs.YtejjlkbbnhpbdaaGreatX
open Go Go.RowKit Go.Maps Go.ChangeMaps Go.WideMaps
theorem lawS:Keyed Tryz.prog 9:=string_keyed Tryz.underlying9
theorem data_ne {s t:ByteArray} (h:s≠t):(Lit.string s.data.toList)≠.string t.data.toList:=by
 intro e;injection e with e
 apply h
 cases s with|mk a=>
 cases t with|mk b=>
 have:a=b:=Array.toList_inj.1 e
 rw [this]
end Go.Proofs.YtejjlkbbnhpbdaaGreatX
namespace Go.Proofs.YtejjlkbbnhpbdaaGreatX
open Go Go.RowKit Go.Maps Go.ChangeMaps Go.WideMaps
def memS (s:ByteArray):List ByteArray→Bool
 | []=>false
 | u::r=>(u.toList==s.toList) || memS s r
theorem ba_same {a b:ByteArray}:(a.toList==b.toList)=true↔a=b:=by
 rw [beq_iff_eq];constructor
 ·intro h;rw [ByteArray.toList_eq,ByteArray.toList_eq] at h;cases a with|mk x=>
  cases b with|mk y=>
  exact congrArg ByteArray.mk (Array.toList_inj.1 h)
 ·intro h;rw [h]
def SetS (w:World) (b n:Nat) (ss:List ByteArray):Prop:=
 ∃D:DataW Unit,w.ownsMap Tryz.prog 9 unitElem b n D∧IsMap D∧∀s:ByteArray,has D (.string s.data.toList)=memS s ss
theorem SetS_made (w:World):SetS (w.alloc (.map #[] 0)) w.heap.size 0 []:=
 ⟨.map [],World.ownsMap_made w _ _ _,isMap_empty,fun _=>rfl⟩
theorem SetS.kept {w w':World} {b n:Nat} {ss:List ByteArray} {row:Option Nat} (h:SetS w b n ss) (hg:w.grownBy w' row) (hne:some b≠row):SetS w' b n ss:=by
 obtain ⟨D,h1,h2,h3⟩:=h;exact ⟨D,h1.kept hg hne,h2,h3⟩
theorem SetS.alloc {w:World} {b n:Nat} {ss:List ByteArray} (h:SetS w b n ss) (o:Obj):SetS (w.alloc o) b n ss:=by
 obtain ⟨D,h1,h2,h3⟩:=h;exact ⟨D,h1.alloc o,h2,h3⟩
theorem SetS.lt {w:World} {b n:Nat} {ss:List ByteArray} (h:SetS w b n ss):b<w.heap.size:=by
 obtain ⟨D,h1,_⟩:=h;exact h1.lt
theorem wpList_hasS {w:World} {ops:Array Oper} {rest:List Oper} {o:Oper} {a:Act} {Q:Exit→Act→World→Prop} (hg:o.guard=none) (m x:Operand) (t eT:TypeId) (hz:∀w,(zeroValue eT).run Tryz.prog w=.ok (.agg #[]) w) (ht:Tryz.prog.underlying t=some (.map 9 eT))
  (hop:o.op=Op.lookup t m x true) (b n:Nat) (ss:List ByteArray) (h:SetS w b n ss) (hm:a.eval m=.map (some b)) (s:ByteArray) (hs:s.size≤maxLen) (hx:a.eval x=.string s)
  (hK:wpList Tryz.prog ops Q rest (a.put o.dst (.tuple #[.agg #[],.bool (memS s ss)])) w):
  wpList Tryz.prog ops Q (o::rest) a w:=by
 obtain ⟨D,h1,h2,h3⟩:=h;refine wpList_lookup_own_unit w hg m x t hop _ _ lawS ht (hz _) b n D hm h1 _ _ hx (keyOf_string_mk Tryz.underlying9 hs) ?_;rw [h3 s];exact hK
theorem wpList_addS {w:World} {ops:Array Oper} {rest:List Oper} {o:Oper} {a:Act} {Q:Exit→Act→World→Prop} (hg:o.guard=none) (m x v:Operand) (t eT:TypeId) (ht:Tryz.prog.underlying t=some (.map 9 eT))
  (hop:o.op=Op.mapUpdate t m x v) (b n:Nat) (ss:List ByteArray) (h:SetS w b n ss) (hn:n<maxLen) (hm:a.eval m=.map (some b)) (s:ByteArray) (hs:s.size≤maxLen) (hx:a.eval x=.string s) (hv:a.eval v=.agg #[])
  (hK:∀w',SetS w' b (n+1) (s::ss)→w.grownBy w' (some b)→wpList Tryz.prog ops Q rest (a.put o.dst undef) w'):
  wpList Tryz.prog ops Q (o::rest) a w:=by
 obtain ⟨D,h1,h2,h3⟩:=h;refine wpList_mapUpdate_in w hg m x v t hop _ _ lawS ht unitElem b n D hm h1 hn _ _ _ hx hv (keyOf_string_mk Tryz.underlying9 hs) _ [] unitElem_mk ?_;intro w' h4 h5;refine hK w' ⟨_,h4,?_,fun u=>?_⟩ h5.grown
 ·obtain ⟨es,rfl⟩:=h2;exact ⟨_,rfl⟩
 ·by_cases e:s=u
  ·subst e;rw [has_put_same h2 (by trivial),memS,ba_same.2 rfl];rfl
  ·rw [has_put_other (data_ne (Ne.symm e)),h3 u,memS,Bool.eq_false_iff.2 (fun h=>e (ba_same.1 h))];rfl
end Go.Proofs.YtejjlkbbnhpbdaaGreatX
namespace Go.Proofs.YtejjlkbbnhpbdaaGreat.P
open Go.Proofs.YtejjlkbbnhpbdaaGreatX
open Go.RowKit Go.Proofs.YtejjlkbbnhpbdaaGreatW.PrintWords Go.Proofs.YtejjlkbbnhpbdaaGreatW.PrintLast Go.Proofs.YtejjlkbbnhpbdaaGreatW.PrintMore
attribute [local go_sem] max2_int min2_int max_two min_two max_three min_three max_four min_four
set_option linter.unusedVariables false
set_option linter.unusedSimpArgs false
open Go.Maps Go.ChangeMaps Go.WideMaps Go.Proofs.YtejjlkbbnhpbdaaGreatX
theorem zeroU_ (w:World):(zeroValue 126).run Tryz.prog w=.ok (.agg #[]) w:=by kernel_rfl
set_option maxHeartbeats 4000000 in
set_option maxRecDepth 100000 in
theorem impl_nameSet_has.calls (b n:Nat) (ss:List ByteArray) (s:ByteArray) (w:World) (h:SetS w b n ss) (hs:s.size≤maxLen):
  Calls Tryz.prog 76 #[.map (some b),.string s] w fun e w'=>e=.returned (.bool (memS s ss))∧Below w.heap.size w w':=by
 have HB:=a_ (Below.refl w.heap.size w);have HS:=a_ h;have HL:=a_ hs;have hu:=Tryz.underlying126;clear h hs;go_enter Tryz.func76,Tryz.ntmps76;go_wp2_with (at_lookup;refine wpList_hasS rfl _ _ 124 126 zeroU_ Tryz.underlying124 rfl b n ss HS.out rfl s HL.out rfl ?_);go_ret;exact ⟨rfl,by repeat (first|exact HB.out|apply below_alloc)⟩
end Go.Proofs.YtejjlkbbnhpbdaaGreat.P
namespace Go.Proofs.YtejjlkbbnhpbdaaGreat.P
open Go.Proofs.YtejjlkbbnhpbdaaGreatX
open Go.RowKit Go.Proofs.YtejjlkbbnhpbdaaGreatW.PrintWords Go.Proofs.YtejjlkbbnhpbdaaGreatW.PrintLast Go.Proofs.YtejjlkbbnhpbdaaGreatW.PrintMore
attribute [local go_sem] max2_int min2_int max_two min_two max_three min_three max_four min_four
set_option linter.unusedVariables false
set_option linter.unusedSimpArgs false
def impl_Rule_positives.l0:Nat→Int→List (S101)→Int→Int→Option (Int)
 | 0,_,_,_,_=>none
 | k+1,x3,x7,x8,x9=>if x9<x8 then (if 0≤x9 then (if x9<(x7.length:Int) then (if ((rd_T101 x7 x9).f0=true) then (impl_Rule_positives.l0 k x3 x7 x8 (wrap64 (x9+1))) else (impl_Rule_positives.l0 k (wrap64 (x3+1)) x7 x8 (wrap64 (x9+1)))) else (none)) else (none)) else (some x3)
def impl_Rule_positives.f (k:Nat) (a0_0:ByteArray) (a0_1:Int) (l0_2:List (S101)) (l0_3:List (S106)) (l0_4:List (S108)):Option (Int):=impl_Rule_positives.l0 k 0 l0_2 (l0_2.length:Int) 0
theorem impl_Rule_positives.mono_l:∀k,(∀y0 y1 y2 y3,LeO (impl_Rule_positives.l0 k y0 y1 y2 y3) (impl_Rule_positives.l0 (k+1) y0 y1 y2 y3))
 | 0=>fun _ _ _ _ r h=>by simp [impl_Rule_positives.l0] at h
 | k+1=>by
  have ih0:=impl_Rule_positives.mono_l k
  ·intro y0 y1 y2 y3;unfold impl_Rule_positives.l0
   repeat' with_reducible first|apply ih0|apply LeO.refl|apply LeO.none|refine LeO.ite ?_ ?_|refine LeO.bind ?_ (fun _=>?_)
theorem impl_Rule_positives.mono:∀a0 a1 a2 a3 a4 k,LeO (impl_Rule_positives.f k a0 a1 a2 a3 a4) (impl_Rule_positives.f (k+1) a0 a1 a2 a3 a4):=by
 intro a0 a1 a2 a3 a4 k;have ih0:=impl_Rule_positives.mono_l k;unfold impl_Rule_positives.f
 repeat' with_reducible first|apply ih0|apply LeO.refl|apply LeO.none|refine LeO.ite ?_ ?_|refine LeO.bind ?_ (fun _=>?_)
set_option maxHeartbeats 8000000 in
set_option maxRecDepth 100000 in
theorem impl_Rule_positives.calls (k:Nat) (a0_0:ByteArray) (a0_1:Int) (A0_2:Option Addr) (c0_2:Nat) (l0_2:List (S101)) (A0_3:Option Addr) (c0_3:Nat) (l0_3:List (S106)) (A0_4:Option Addr) (c0_4:Nat) (l0_4:List (S108)) (r:Int) (w:World) (hr0_2:Kd.C k101 w A0_2 l0_2.length l0_2) (hc0_2:l0_2.length≤c0_2) (hr0_3:Kd.C k106 w A0_3 l0_3.length l0_3) (hc0_3:l0_3.length≤c0_3) (hr0_4:Kd.C k108 w A0_4 l0_4.length l0_4) (hc0_4:l0_4.length≤c0_4) (h:impl_Rule_positives.f k a0_0 a0_1 l0_2 l0_3 l0_4=some r):
  Calls Tryz.prog 77 #[.agg #[.string a0_0,.int .i64 a0_1,.slice A0_2 l0_2.length c0_2,.slice A0_3 l0_3.length c0_3,.slice A0_4 l0_4.length c0_4]] w fun e w'=>e=.returned (.int .i64 r)∧Below w.heap.size w w':=by
 have hu58:=Tryz.underlying58;have hu101:=Tryz.underlying101;have HR0_2:=a_ hr0_2;have HC0_2:=a_ hc0_2;clear hr0_2 hc0_2;have HR0_3:=a_ hr0_3;have HC0_3:=a_ hc0_3;clear hr0_3 hc0_3;have HR0_4:=a_ hr0_4;have HC0_4:=a_ hc0_4;clear hr0_4 hc0_4;have HB:=a_ (Below.refl w.heap.size w);have H:(impl_Rule_positives.l0 k 0 l0_2 (l0_2.length:Int) 0)=some r:=h
 clear h;have H':=a_ H;clear H;go_enter Tryz.func77,Tryz.ntmps77;go_wp2_with (first|((with_reducible refine gate_dst (N:=1) rfl ?_);refine bh_ 1 #[.string a0_0,.int .i64 a0_1,.slice A0_2 l0_2.length c0_2,.slice A0_3 l0_3.length c0_3,.slice A0_4 l0_4.length c0_4] 58 HB ?_;intro gb386 hg wx BK386 GE386 hb;replace HB:=ms_ HB hb;clear hb hg;replace hz386:=cz5 BK386));go_loopg [3,9] k (fun kq v3 v9 w'=>∃(x3_1:Int) (x9_1:Int),v3=.int .i64 x3_1∧v9=.int .i64 x9_1∧Aside0 (impl_Rule_positives.l0 kq x3_1 l0_2 (l0_2.length:Int) x9_1=some r)∧Aside0 (kq≤k)∧Aside0 (w'.heap[gb386]?=some (.cells #[.string a0_0,.int .i64 a0_1,(.slice A0_2 l0_2.length c0_2),(.slice A0_3 l0_3.length c0_3),(.slice A0_4 l0_4.length c0_4)] 58 (0,0)))∧Aside0 (Below w.heap.size w w'))
 case atStart=>exact ⟨(0),(0),mq_,mq_,H',⟨Nat.le_refl _⟩,⟨mc_ BK386⟩,⟨mb_ HB⟩⟩
 clear H';(try clear hz386);obtain ⟨x3_1,x9_1,rfl,rfl,HA,HK1,BK386,HB⟩:=hrel;obtain _|k1:=gk
 ·exact absurd HA.out (by simp [impl_Rule_positives.l0])
 have H:=HA.out;clear HA;simp only [impl_Rule_positives.l0] at H;by_cases c4:x9_1<(l0_2.length:Int)
 ·rw [if_pos c4] at H;have c4b0:=ct_ c4;clear c4;by_cases c5:0≤x9_1
  case neg=>
   rw [if_neg c5] at H;cases H
  rw [if_pos c5] at H;have c5b0:=ct_ c5;clear c5;by_cases c6:x9_1<(l0_2.length:Int)
  case neg=>
   rw [if_neg c6] at H;cases H
  rw [if_pos c6] at H;have c6b0:=ct_ c6;clear c6;obtain ⟨bq7,hbq7⟩:∃b_:Bool,b_=((rd_T101 l0_2 x9_1).f0):=⟨_,rfl⟩;replace H:(if (bq7=true) then (impl_Rule_positives.l0 k1 x3_1 l0_2 (l0_2.length:Int) (wrap64 (x9_1+1))) else (impl_Rule_positives.l0 k1 (wrap64 (x3_1+1)) l0_2 (l0_2.length:Int) (wrap64 (x9_1+1))))=some r:=by rw [←hbq7] at H;exact H
  have Nbq7:=a_ hbq7;clear hbq7;by_cases c8:(bq7=true)
  ·subst c8;rw [if_pos rfl] at H;have H':=a_ H;clear H;have p387:0≤(x9_1:Int):=md_
   have q387:x9_1<(l0_2.length:Int):=md_
   obtain ⟨ad387,A387_2,c387_2,e387,hx387_0,hx387_1,hx387_2,hl387_2,hi387_2⟩:=at_T101 HR0_2.out x9_1 p387 q387;(try rw [←Nbq7.out] at hx387_0);cases e387;replace hx387_0:=mx_ HB hx387_0;replace hx387_1:=mx_ HB hx387_1;replace hx387_2:=mx_ HB hx387_2;have HR387_2:=a_ hi387_2;have HC387_2:=a_ hl387_2;clear hi387_2 hl387_2;replace p387:=eq_true p387;replace q387:=eq_true q387;go_wp2_with (first|((with_reducible refine gate_dst (N:=5) rfl ?_);refine bh_ 5 #[.bool false,.string (⟨#[]⟩:ByteArray),.slice none 0 0] 101 HB ?_;intro gb388 hg wx BK388 GE388 hb;obtain ⟨NB386_388,NB388_386⟩:=mn_ BK386 hg;replace BK386:=mk_ BK386 hb;replace HB:=ms_ HB hb;clear hb hg;have nNB388_386:=NB388_386.out;have nNB386_388:=NB386_388.out;replace hz388:=cz3 BK388));go_roundg k1
   case measure=>
    have:=HK1.out
    omega
   case rel=>exact ⟨(x3_1),(wrap64 (x9_1+1)),mq_,mq_,H',⟨by have:=HK1.out;omega⟩,⟨mc_ BK386⟩,⟨mb_ HB⟩⟩
  ·replace c8:=Bool.eq_false_iff.mpr c8;subst c8;rw [if_neg (show ¬(false=true) by decide)] at H;have H':=a_ H;clear H;have p387:0≤(x9_1:Int):=md_
   have q387:x9_1<(l0_2.length:Int):=md_
   obtain ⟨ad387,A387_2,c387_2,e387,hx387_0,hx387_1,hx387_2,hl387_2,hi387_2⟩:=at_T101 HR0_2.out x9_1 p387 q387;(try rw [←Nbq7.out] at hx387_0);cases e387;replace hx387_0:=mx_ HB hx387_0;replace hx387_1:=mx_ HB hx387_1;replace hx387_2:=mx_ HB hx387_2;have HR387_2:=a_ hi387_2;have HC387_2:=a_ hl387_2;clear hi387_2 hl387_2;replace p387:=eq_true p387;replace q387:=eq_true q387;go_wp2_with (first|((with_reducible refine gate_dst (N:=5) rfl ?_);refine bh_ 5 #[.bool false,.string (⟨#[]⟩:ByteArray),.slice none 0 0] 101 HB ?_;intro gb388 hg wx BK388 GE388 hb;obtain ⟨NB386_388,NB388_386⟩:=mn_ BK386 hg;replace BK386:=mk_ BK386 hb;replace HB:=ms_ HB hb;clear hb hg;have nNB388_386:=NB388_386.out;have nNB386_388:=NB386_388.out;replace hz388:=cz3 BK388));go_roundg k1
   case measure=>
    have:=HK1.out
    omega
   case rel=>exact ⟨(wrap64 (x3_1+1)),(wrap64 (x9_1+1)),mq_,mq_,H',⟨by have:=HK1.out;omega⟩,⟨mc_ BK386⟩,⟨mb_ HB⟩⟩
 ·rw [if_neg c4] at H;have c4b0:=cf_ c4;clear c4;obtain rfl:=oi_ H;go_wp2;go_ret;exact ⟨me_,mb_ HB⟩
end Go.Proofs.YtejjlkbbnhpbdaaGreat.P
namespace Go.Proofs.YtejjlkbbnhpbdaaGreatX
open Go Go.RowKit Go.Maps Go.ChangeMaps Go.WideMaps
theorem SetS.mono {w:World} {b n n':Nat} {ss:List ByteArray} (h:SetS w b n ss) (hn:n≤n'):SetS w b n' ss:=by
 obtain ⟨D,h1,h2,h3⟩:=h;exact ⟨D,h1.mono hn,h2,h3⟩
theorem SetS.ext {w:World} {b n:Nat} {ss ss':List ByteArray} (h:SetS w b n ss) (he:∀s,memS s ss=memS s ss'):SetS w b n ss':=by
 obtain ⟨D,h1,h2,h3⟩:=h;exact ⟨D,h1,h2,fun s=>(h3 s).trans (he s)⟩
theorem memS_append (s:ByteArray):∀a b:List ByteArray,memS s (a++b)=(memS s a || memS s b)
 | [],b=>by simp [memS]
 | x::a,b=>by simp [memS,memS_append s a b,Bool.or_assoc]
theorem memS_cons_self (s:ByteArray) (ss:List ByteArray):memS s (s::ss)=true:=by simp [memS]
theorem memS_cons_ne {s t:ByteArray} (h:t≠s) (ss:List ByteArray):memS s (t::ss)=memS s ss:=by
 simp only [memS];rw [Bool.eq_false_iff.2 (fun e=>h (ba_same.1 e)),Bool.false_or]
theorem has_of_at {D:DataW Unit} {kl:Lit} {d:DataW Unit} (hm:IsMap D) (h:∀zd,D.atKey kl zd=d):has D kl=true:=by
 obtain ⟨es,rfl⟩:=hm;rw [has_eq];have h1:=h (.lit (.bool true));have h2:=h (.lit (.bool false));simp only [DataW.atKey] at h1 h2;cases hf:es.find? (fun p=>p.1.sameKey kl) with
 | none=>rw [hf] at h1 h2;rw [←h2] at h1;cases h1
 | some p=>exact List.any_eq_true.2 ⟨p,List.mem_of_find?_eq_some hf,by have:=List.find?_some hf;simpa using this⟩
theorem string_key_inv {key:Value} {kl:Lit} (h:keyOf Tryz.prog 9 key=some kl):∃s:ByteArray,key=.string s∧s.size≤maxLen∧kl=.string s.data.toList:=by
 cases key<;>simp [keyOf,Tryz.underlying9,mapKey] at h
 exact ⟨_,rfl,h.1,h.2.symm⟩
theorem same_self (l:List UInt8):(Lit.string l).sameKey (.string l)=true:=by simp [Lit.sameKey]
def URel (w:World) (bL r nL:Nat) (L:List ByteArray) (bK nK:Nat) (K:List ByteArray) (cnt:Nat):Prop:=
 ∃(D:DataW Unit) (left:Lit→Bool) (ss:List ByteArray),IsMap D∧(∀s:ByteArray,has D (.string s.data.toList)=memS s L)∧w.ranges Tryz.prog 9 unitElem bL r nL D left cnt∧cnt≤nL∧SetS w bK (nK+(nL-cnt)) ss∧
  ∀s:ByteArray,memS s ss=(memS s K || (memS s L && !left (.string s.data.toList)))
def UMid (w:World) (bL r nL:Nat) (L:List ByteArray) (bK nK:Nat) (K:List ByteArray) (cnt:Nat) (x:ByteArray):Prop:=
 ∃(D:DataW Unit) (left:Lit→Bool) (ss:List ByteArray),IsMap D∧(∀s:ByteArray,has D (.string s.data.toList)=memS s L)∧w.ranges Tryz.prog 9 unitElem bL r nL D left cnt∧cnt<nL∧SetS w bK (nK+(nL-cnt-1)) ss∧
  ∀s:ByteArray,memS s (x::ss)=(memS s K || (memS s L && !left (.string s.data.toList)))
theorem ranges_ne_set {w:World} {bL r nL n:Nat} {D:DataW Unit} {left:Lit→Bool} {cnt bK:Nat} {ss:List ByteArray} (h:w.ranges Tryz.prog 9 unitElem bL r nL D left cnt) (k:SetS w bK n ss):bK≠r:=by
 obtain ⟨es,clock,since,seen,c0,_,_,_,_,hr,_⟩:=h;obtain ⟨D',⟨es',clock',hb,_⟩,_⟩:=k;intro e;subst e;rw [hr] at hb;cases hb
section
variable {w:World} {ops:Array Oper} {rest:List Oper} {o:Oper} {a:Act} {Q:Exit→Act→World→Prop}
theorem wpList_rangeU (hg:o.guard=none) (m:Operand) (t eT:TypeId) (ht:Tryz.prog.underlying t=some (.map 9 eT)) (hop:o.op=Op.range t m) (bL nL:Nat) (L:List ByteArray) (hL:SetS w bL nL L) (bK nK:Nat) (K:List ByteArray) (hK:SetS w bK nK K)
  (hm:a.eval m=.map (some bL))
  (h:∀w' cnt,URel w' bL w.heap.size nL L bK nK K cnt→w.grownBy w' none→w'.heap.size=w.heap.size+1→wpList Tryz.prog ops Q rest (a.put o.dst (.pointer (some ⟨w.heap.size,0,none⟩))) w'):
  wpList Tryz.prog ops Q (o::rest) a w:=by
 obtain ⟨D,h1,h2,h3⟩:=hL;refine wpList_range_own w hg m t hop _ eT lawS ht unitElem bL nL D hm h1 ?_;intro w' hr hgr hs;exact h w' (Maps.size D) ⟨D,has D,K,h2,h3,hr,h1.size_le,(hK.kept hgr (by simp)).mono (by omega),fun s=>by rw [h3 s];cases memS s K<;>cases memS s L<;>rfl⟩ hgr hs
theorem wpList_nextU (hg:o.guard=none) (it:Operand) (hop:o.op=Op.next it false) (bL r nL:Nat) (L:List ByteArray) (bK nK:Nat) (K:List ByteArray) (cnt:Nat) (hit:a.eval it=.pointer (some ⟨r,0,none⟩)) (hU:URel w bL r nL L bK nK K cnt)
  (hDone:SetS w bK (nK+nL) (L++K)→wpList Tryz.prog ops Q rest (a.put o.dst (.tuple #[.bool false])) w)
  (hMore:∀(x:ByteArray) (w':World) (cnt':Nat),x.size≤maxLen→cnt'<cnt→UMid w' bL r nL L bK nK K cnt' x→w.grownBy w' (some r)→w'.heap.size=w.heap.size→(Instr.entry (.pointer (some ⟨r,0,none⟩))).run Tryz.prog w'=.ok (.tuple #[.string x,.agg #[]]) w'→
   wpList Tryz.prog ops Q rest (a.put o.dst (.tuple #[.bool true,.string x,.agg #[]])) w'):
  wpList Tryz.prog ops Q (o::rest) a w:=by
 obtain ⟨D,left,ss,hm,hL,hr,hc,hS,hss⟩:=hU;refine wpList_next_ranges w hg it hop _ lawS unitElem Value.string (fun _:Unit=>.agg #[]) (fun key kl hk=>by obtain ⟨s,e,_⟩:=string_key_inv hk;exact ⟨s,e⟩) (fun v y hv=>⟨(),(unitElem_inv hv).1⟩) bL r nL D left cnt hit hr ?_ ?_
 ·intro h0 hl;refine hDone ((hS.mono (by omega)).ext fun s=>?_);rw [hss s,hl,memS_append];cases memS s K<;>cases memS s L<;>rfl
 ·intro x c kl y w' cnt' hkey hlk _ hat hrg hlt hgr hsz hen;obtain ⟨s',e1,e2,e3⟩:=string_key_inv hkey;cases e1;subst e3;have hx:memS x L=true:=by rw [←hL x];exact has_of_at hm hat
  refine hMore x w' cnt' e2 hlt ⟨D,_,ss,hm,hL,hrg,by omega,(hS.kept hgr (fun e=>ranges_ne_set hr hS (by injection e))).mono (by omega),fun s=>?_⟩ hgr hsz hen;by_cases e:x=s
  ·subst e;rw [memS_cons_self,hx,same_self];simp
  ·rw [memS_cons_ne e,hss s,sameKey_ne (data_ne (Ne.symm e))];simp
theorem wpList_addU (hg:o.guard=none) (m x v:Operand) (t eT:TypeId) (ht:Tryz.prog.underlying t=some (.map 9 eT)) (hop:o.op=Op.mapUpdate t m x v) (bL r nL:Nat) (L:List ByteArray) (bK nK:Nat) (K:List ByteArray) (cnt:Nat) (s:ByteArray)
  (hU:UMid w bL r nL L bK nK K cnt s) (hne:bL≠bK) (hn:nK+nL<maxLen) (hm:a.eval m=.map (some bK)) (hs:s.size≤maxLen) (hx:a.eval x=.string s) (hv:a.eval v=.agg #[])
  (h:∀w',URel w' bL r nL L bK nK K cnt→w.grownBy w' (some bK)→wpList Tryz.prog ops Q rest (a.put o.dst undef) w'):
  wpList Tryz.prog ops Q (o::rest) a w:=by
 obtain ⟨D,left,ss,hmap,hL,hr,hc,hS,hss⟩:=hU;have hrK:bK≠r:=ranges_ne_set hr hS
 refine wpList_addS hg m x v t eT ht hop bK _ ss hS (Nat.lt_of_le_of_lt (Nat.add_le_add_left (Nat.le_trans (Nat.sub_le _ _) (Nat.sub_le _ _)) _) hn) hm s hs hx hv ?_;intro w' h1 h2;exact h w' ⟨D,left,s::ss,hmap,hL,hr.kept h2 (fun e=>hne (Option.some.inj e)) (fun e=>hrK (Option.some.inj e).symm),Nat.le_of_lt hc,h1.mono (Nat.le_of_eq (by clear hn hss h;omega)),hss⟩ h2
end
end Go.Proofs.YtejjlkbbnhpbdaaGreatX
namespace Go.Proofs.YtejjlkbbnhpbdaaGreat.P
open Go.Proofs.YtejjlkbbnhpbdaaGreatX
open Go.RowKit Go.Proofs.YtejjlkbbnhpbdaaGreatW.PrintWords Go.Proofs.YtejjlkbbnhpbdaaGreatW.PrintLast Go.Proofs.YtejjlkbbnhpbdaaGreatW.PrintMore
attribute [local go_sem] max2_int min2_int max_two min_two max_three min_three max_four min_four
set_option linter.unusedVariables false
set_option linter.unusedSimpArgs false
open Go.Proofs.YtejjlkbbnhpbdaaGreatX
def sc_t (K:List ByteArray):List S134→List ByteArray→Option (Bool×List ByteArray)
 | [],L=>some (true,L)
 | t::ts,L=>if t.f2.size≤maxLen then (if t.f0=3∧t.f2.toList.isEmpty=false∧memS t.f2 K=false∧memS t.f2 L=false then some (false,L) else if t.f0=2 then sc_t K ts (t.f2::L) else sc_t K ts L) else none
def sc_p:List S101→Nat→List ByteArray→Option (Int×List ByteArray)
 | [],_,K=>some (-1,K)
 | p::ps,i,K=>if p.f2.length≤6 then (sc_t K p.f2 []).bind fun y=>(if y.1=true then sc_p ps (i+1) (if p.f0=true then K else y.2++K) else some ((i:Int)+1,K)) else none
def sc_e (es:List S106) (K:List ByteArray):Nat→Int→Int→Option (Bool×Int)
 | 0,k,x=>if k≤x then none else some (true,k)
 | m+1,k,x=>if k≤x then (if 0≤k∧k<(es.length:Int)∧(rd_T106 es k).f2.size≤maxLen then (if (rd_T106 es k).f0=1∧memS (rd_T106 es k).f2 K=false then some (false,k) else sc_e es K m (k+1) x) else none) else some (true,k)
def sc_args (es:List S106) (K:List ByteArray):List Int→Int→Option (Bool×Int)
 | [],k=>some (true,k)
 | x::xs,k=>(sc_e es K es.length k x).bind fun y=>if y.1=true then sc_args es K xs y.2 else some (false,y.2)
def sc_acts (es:List S106) (K:List ByteArray) (lp:Nat):List S108→Nat→Int→Option Int
 | [],_,_=>some (-1)
 | a::as_,i,k=>(sc_args es K a.f3 k).bind fun y=>if y.1=true then sc_acts es K lp as_ (i+1) y.2 else some ((lp:Int)+(i:Int)+1)
def impl_Rule_scopeFault.f (nm:ByteArray) (sa:Int) (ps:List S101) (es:List S106) (as_:List S108):Option Int:=
 if ps.length≤6∧es.length≤60∧as_.length≤8 then (sc_p ps 0 []).bind fun y=>if y.1=-1 then sc_acts es y.2 ps.length as_ 0 0 else some y.1 else none
theorem sc_t_cons (K:List ByteArray) (ts:List S134) (j:Nat) (h:j<ts.length) (L:List ByteArray) (y:Bool×List ByteArray) (hg:sc_t K (ts.drop j) L=some y):
  (rd_T134 ts (j:Int)).f2.size≤maxLen∧(if (rd_T134 ts (j:Int)).f0=3∧(rd_T134 ts (j:Int)).f2.toList.isEmpty=false∧memS (rd_T134 ts (j:Int)).f2 K=false∧memS (rd_T134 ts (j:Int)).f2 L=false then some (false,L) else if (rd_T134 ts (j:Int)).f0=2 then sc_t K (ts.drop (j+1)) ((rd_T134 ts (j:Int)).f2::L) else sc_t K (ts.drop (j+1)) L)=some y:=by
 have e:rd_T134 ts (j:Int)=ts[j]:=by
  unfold rd_T134
  simp [h]
 rw [List.drop_eq_getElem_cons h] at hg;unfold sc_t at hg
 rw [e];split at hg
 ·exact ⟨‹_›,hg⟩
 ·cases hg
theorem sc_p_cons (ps:List S101) (i:Nat) (h:i<ps.length) (K:List ByteArray) (y:Int×List ByteArray) (hg:sc_p (ps.drop i) i K=some y):
  (rd_T101 ps (i:Int)).f2.length≤6∧((sc_t K (rd_T101 ps (i:Int)).f2 []).bind fun y=>(if y.1=true then sc_p (ps.drop (i+1)) (i+1) (if (rd_T101 ps (i:Int)).f0=true then K else y.2++K) else some ((i:Int)+1,K)))=some y:=by
 have e:rd_T101 ps (i:Int)=ps[i]:=by
  unfold rd_T101
  simp [h]
 rw [List.drop_eq_getElem_cons h] at hg;unfold sc_p at hg
 rw [e];split at hg
 ·exact ⟨‹_›,hg⟩
 ·cases hg
theorem sc_args_cons (es:List S106) (K:List ByteArray) (xs:List Int) (j:Nat) (h:j<xs.length) (k:Int) (y:Bool×Int) (hg:sc_args es K (xs.drop j) k=some y):
  ((sc_e es K es.length k (rd xs (j:Int))).bind fun y=>if y.1=true then sc_args es K (xs.drop (j+1)) y.2 else some (false,y.2))=some y:=by
 have e:rd xs (j:Int)=xs[j]:=by
  unfold rd
  simp [h]
 rw [List.drop_eq_getElem_cons h] at hg;unfold sc_args at hg
 rw [e];exact hg
theorem sc_acts_cons (es:List S106) (K:List ByteArray) (lp:Nat) (as_:List S108) (i:Nat) (h:i<as_.length) (k:Int) (r:Int) (hg:sc_acts es K lp (as_.drop i) i k=some r):
  ((sc_args es K (rd_T108 as_ (i:Int)).f3 k).bind fun y=>if y.1=true then sc_acts es K lp (as_.drop (i+1)) (i+1) y.2 else some ((lp:Int)+(i:Int)+1))=some r:=by
 have e:rd_T108 as_ (i:Int)=as_[i]:=by
  unfold rd_T108
  simp [h]
 rw [List.drop_eq_getElem_cons h] at hg;unfold sc_acts at hg
 rw [e];exact hg
theorem lt_maxLen {n:Nat} (h:n≤1000):n<maxLen:=by unfold maxLen;omega
set_option maxHeartbeats 16000000 in
set_option maxRecDepth 100000 in
theorem impl_Rule_scopeFault.walk (nm:ByteArray) (sa:Int) (A2:Option Addr) (c2:Nat) (ps:List S101) (A3:Option Addr) (c3:Nat) (es:List S106) (A4:Option Addr) (c4:Nat) (as_:List S108) (r:Int) (w:World) (hr2:Kd.C k101 w A2 ps.length ps) (hr3:Kd.C k106 w A3 es.length es) (hr4:Kd.C k108 w A4 as_.length as_) (h:impl_Rule_scopeFault.f nm sa ps es as_=some r):
  Calls Tryz.prog 78 #[.agg #[.string nm,.int .i64 sa,.slice A2 ps.length c2,.slice A3 es.length c3,.slice A4 as_.length c4]] w fun e w'=>e=.returned (.int .i64 r)∧Below w.heap.size w w':=by
 have hu:=Tryz.underlying58;have hu2:=Tryz.underlying108;have hu3:=Tryz.underlying101;have hu4:=Tryz.underlying134;have hu5:=Tryz.underlying106;have HR2:=a_ hr2;have HR3:=a_ hr3;have HR4:=a_ hr4;clear hr2 hr3 hr4;unfold impl_Rule_scopeFault.f at h
 by_cases c0:ps.length≤6∧es.length≤60∧as_.length≤8
 rotate_left
 ·rw [if_neg c0] at h;cases h
 rw [if_pos c0] at h;have C0:=a_ c0;clear c0;obtain ⟨y,hy,h⟩:=Option.bind_eq_some_iff.1 h;have HY:Aside0 (sc_p (ps.drop 0) 0 []=some y):=⟨hy⟩
 have HH:=a_ h;clear hy h;have HB:=a_ (below_alloc (below_alloc (Below.refl w.heap.size w) (.cells #[.string nm,.int .i64 sa,.slice A2 ps.length c2,.slice A3 es.length c3,.slice A4 as_.length c4] 58)) (.map #[] 0));have BK:=a_ (blk_alloc (blk_new w (.cells #[.string nm,.int .i64 sa,.slice A2 ps.length c2,.slice A3 es.length c3,.slice A4 as_.length c4] 58)) (.map #[] 0));have SK:Aside0 (SetS ((w.alloc (.cells #[.string nm,.int .i64 sa,.slice A2 ps.length c2,.slice A3 es.length c3,.slice A4 as_.length c4] 58)).alloc (.map #[] 0)) (w.heap.size+1) 0 []):=⟨by have:=SetS_made (w.alloc (.cells #[.string nm,.int .i64 sa,.slice A2 ps.length c2,.slice A3 es.length c3,.slice A4 as_.length c4] 58));rwa [show (w.alloc (.cells #[.string nm,.int .i64 sa,.slice A2 ps.length c2,.slice A3 es.length c3,.slice A4 as_.length c4] 58)).heap.size=w.heap.size+1 by simp] at this⟩
 have ha2:=(blk_cell BK.out 2).trans rfl;simp only [List.getElem?_toArray,List.getElem?_cons_zero,List.getElem?_cons_succ] at ha2;have hmm:=@run_makeMap Tryz.prog;go_enter Tryz.func78,Tryz.ntmps78;go_wp2;go_loopg [20] ps.length (fun gg v20 wr=>∃(i nK:Nat) (K:List ByteArray),i≤ps.length∧ps.length-i≤gg∧v20=.int .i64 (i:Int)∧Aside0 (nK≤6*i)∧Aside0 (sc_p (ps.drop i) i K=some y)∧Aside0 (Below w.heap.size w wr)∧Aside0 (wr.heap[w.heap.size]?=some (.cells #[.string nm,.int .i64 sa,.slice A2 ps.length c2,.slice A3 es.length c3,.slice A4 as_.length c4] 58 (0,0)))∧Aside0 (SetS wr (w.heap.size+1) nK K))
 case atStart=>exact ⟨0,0,[],Nat.zero_le _,Nat.le_refl _,rfl,⟨Nat.le_refl _⟩,HY,HB,BK,SK⟩
 clear SK BK HB ha2 HY;obtain ⟨i,nK,K,hi,hgg,rfl,HN,HY,HB,BK,SK⟩:=hrel;obtain ⟨wa,hwa⟩:∃x,x=wr:=⟨_,rfl⟩;subst hwa;by_cases hlt:i<ps.length
 ·have hz:(i:Int)<(ps.length:Int):=by omega
  have hz0:(0:Int)≤(i:Int):=by omega
  obtain ⟨ad,A5,c5,e0,hx0,hx1,hx2,hl5,hC5⟩:=at_T101 HR2.out (i:Int) hz0 hz;cases e0;replace hx0:=mx_ HB hx0;replace hx1:=mx_ HB hx1;replace hx2:=mx_ HB hx2;simp only [Int.toNat_natCast] at hx0 hx1 hx2;have HC5:=a_ hC5;have hst:=sc_p_cons ps i hlt K y HY.out;clear hC5 hl5;generalize rd_T101 ps (i:Int)=p5 at *;obtain ⟨hl6,hst⟩:=hst;have HL6:=a_ hl6;clear hl6;obtain ⟨yt,hyt,hst⟩:=Option.bind_eq_some_iff.1 hst;have HT:Aside0 (sc_t K (p5.f2.drop 0) []=some yt):=⟨hyt⟩
  have HST:=a_ hst;clear hyt hst;have HS1:Aside0 (w.heap.size+1<wa.heap.size):=⟨SK.out.lt⟩
  have BP:=a_ (blk_alloc (blk_new wa (.cells #[.bool p5.f0,.string p5.f1,.slice A5 p5.f2.length c5] 101)) (.map #[] 0));have SL:Aside0 (SetS ((wa.alloc (.cells #[.bool p5.f0,.string p5.f1,.slice A5 p5.f2.length c5] 101)).alloc (.map #[] 0)) (wa.heap.size+1) 0 []):=⟨by have:=SetS_made (wa.alloc (.cells #[.bool p5.f0,.string p5.f1,.slice A5 p5.f2.length c5] 101));rwa [show (wa.alloc (.cells #[.bool p5.f0,.string p5.f1,.slice A5 p5.f2.length c5] 101)).heap.size=wa.heap.size+1 by simp] at this⟩
  have hp2:=(blk_cell BP.out 2).trans rfl;simp only [List.getElem?_toArray,List.getElem?_cons_zero,List.getElem?_cons_succ] at hp2;go_wp2;go_loopg [29] p5.f2.length (fun gg v29 wr=>∃(j nL:Nat) (L:List ByteArray),j≤p5.f2.length∧p5.f2.length-j≤gg∧v29=.int .i64 (j:Int)∧Aside0 (nL≤j)∧Aside0 (sc_t K (p5.f2.drop j) L=some yt)∧Aside0 (Below w.heap.size w wr)∧Aside0 (wr.heap[w.heap.size]?=some (.cells #[.string nm,.int .i64 sa,.slice (some ad) ps.length c2,.slice A3 es.length c3,.slice A4 as_.length c4] 58 (0,0)))∧Aside0 (wr.heap[wa.heap.size]?=some (.cells #[.bool p5.f0,.string p5.f1,.slice A5 p5.f2.length c5] 101 (0,0)))∧Aside0 (SetS wr (w.heap.size+1) nK K)∧Aside0 (SetS wr (wa.heap.size+1) nL L))
  case atStart=>exact ⟨0,0,[],Nat.zero_le _,Nat.le_refl _,rfl,⟨Nat.le_refl _⟩,HT,⟨below_alloc (below_alloc HB.out _) _⟩,⟨blk_alloc (blk_alloc BK.out _) _⟩,BP,⟨SetS.alloc (SetS.alloc SK.out _) _⟩,SL⟩
  clear SL BP HT hp2;obtain ⟨j,nL,L,hj,hggj,rfl,HNL,HT,HB4,BK4,BP4,SK4,SL4⟩:=hrel;by_cases hltj:j<p5.f2.length
  ·have hzj:(j:Int)<(p5.f2.length:Int):=by omega
   have hzj0:(0:Int)≤(j:Int):=by omega
   have HJ6:Aside0 (j≤6):=⟨by have:=HL6.out;omega⟩
   obtain ⟨adt,e0,ht0,ht1,ht2,ht3,ht4,ht5⟩:=at_T134 HC5.out (j:Int) hzj0 hzj;cases e0;replace ht0:=(HB4.out.cell (World.block_lt_of_cell? w _ ht0)).trans ht0;replace ht1:=(HB4.out.cell (World.block_lt_of_cell? w _ ht1)).trans ht1;replace ht2:=(HB4.out.cell (World.block_lt_of_cell? w _ ht2)).trans ht2;replace ht3:=(HB4.out.cell (World.block_lt_of_cell? w _ ht3)).trans ht3;replace ht4:=(HB4.out.cell (World.block_lt_of_cell? w _ ht4)).trans ht4;replace ht5:=(HB4.out.cell (World.block_lt_of_cell? w _ ht5)).trans ht5;simp only [Int.toNat_natCast] at ht0 ht1 ht2 ht3 ht4 ht5;have hst:=sc_t_cons K p5.f2 j hltj L yt HT.out;generalize rd_T134 p5.f2 (j:Int)=t at *;obtain ⟨hsz,hst⟩:=hst;have HSZ:=a_ hsz;clear hsz;have hwj:wrap64 ((j:Int)+1)=((j+1:Nat):Int):=by unfold wrap64;have:=HJ6.out;omega
   have HWJ:=a_ hwj;clear hwj;by_cases k3:t.f0=3
   ·have p3:(t.f0==3)=true:=by simpa using k3
    have p2:(t.f0==2)=false:=by rw [k3];rfl
    have n2:¬t.f0=2:=by omega
    cases hemp:t.f2.toList.isEmpty with
    | true=>
     rw [if_neg (fun q=>by have:=q.2.1;rw [hemp] at this;cases this),if_neg n2] at hst;have HST2:=a_ hst;clear hst k3 n2;go_wp2;go_roundg (p5.f2.length-(j+1))
     case measure=>omega
     case rel=>exact ⟨j+1,nL,L,by omega,by omega,by rw [HWJ.out],⟨by have:=HNL.out;omega⟩,HST2,⟨below_alloc HB4.out _⟩,⟨blk_alloc BK4.out _⟩,⟨blk_alloc BP4.out _⟩,⟨SetS.alloc SK4.out _⟩,⟨SetS.alloc SL4.out _⟩⟩
    | false=>
     cases hk:memS t.f2 K with
     | true=>
      rw [if_neg (fun q=>by have:=q.2.2.1;rw [hk] at this;cases this),if_neg n2] at hst;have HST2:=a_ hst;clear hst k3 n2;go_wp2_with fail;refine (impl_nameSet_has.calls (w.heap.size+1) nK K t.f2 _ (SetS.alloc SK4.out (.cells #[.int .i64 t.f0,.int .i64 t.f1,.string t.f2,.int .i64 t.f3.f0,.int .i64 t.f3.f1,.string t.f3.f2] 134)) HSZ.out).mono ?_;rintro e w5 ⟨rfl,hd⟩;have HB5:=a_ (below_step (below_alloc HB4.out (.cells #[.int .i64 t.f0,.int .i64 t.f1,.string t.f2,.int .i64 t.f3.f0,.int .i64 t.f3.f1,.string t.f3.f2] 134)) hd);have BK5:=a_ (blk_below (blk_alloc BK4.out (.cells #[.int .i64 t.f0,.int .i64 t.f1,.string t.f2,.int .i64 t.f3.f0,.int .i64 t.f3.f1,.string t.f3.f2] 134)) hd);have BP5:=a_ (blk_below (blk_alloc BP4.out (.cells #[.int .i64 t.f0,.int .i64 t.f1,.string t.f2,.int .i64 t.f3.f0,.int .i64 t.f3.f1,.string t.f3.f2] 134)) hd);have SK5:=a_ ((SetS.alloc SK4.out (.cells #[.int .i64 t.f0,.int .i64 t.f1,.string t.f2,.int .i64 t.f3.f0,.int .i64 t.f3.f1,.string t.f3.f2] 134)).kept (grown_of_below hd none) (by simp));have SL5:=a_ ((SetS.alloc SL4.out (.cells #[.int .i64 t.f0,.int .i64 t.f1,.string t.f2,.int .i64 t.f3.f0,.int .i64 t.f3.f1,.string t.f3.f2] 134)).kept (grown_of_below hd none) (by simp));have BT5:=blk_below (blk_new wr (.cells #[.int .i64 t.f0,.int .i64 t.f1,.string t.f2,.int .i64 t.f3.f0,.int .i64 t.f3.f1,.string t.f3.f2] 134)) hd;have hq0:=(blk_cell BT5 0).trans rfl;have hq2:=(blk_cell BT5 2).trans rfl;simp only [List.getElem?_toArray,List.getElem?_cons_zero,List.getElem?_cons_succ] at hq0 hq2;clear hd BT5;go_wp2;go_roundg (p5.f2.length-(j+1))
      case measure=>omega
      case rel=>exact ⟨j+1,nL,L,by omega,by omega,by rw [HWJ.out],⟨by have:=HNL.out;omega⟩,HST2,HB5,BK5,BP5,SK5,SL5⟩
     | false=>
      cases hl:memS t.f2 L with
      | true=>
       rw [if_neg (fun q=>by have:=q.2.2.2;rw [hl] at this;cases this),if_neg n2] at hst;have HST2:=a_ hst;clear hst k3 n2;go_wp2_with fail;refine (impl_nameSet_has.calls (w.heap.size+1) nK K t.f2 _ (SetS.alloc SK4.out (.cells #[.int .i64 t.f0,.int .i64 t.f1,.string t.f2,.int .i64 t.f3.f0,.int .i64 t.f3.f1,.string t.f3.f2] 134)) HSZ.out).mono ?_;rintro e w5 ⟨rfl,hd⟩;have HB5:=a_ (below_step (below_alloc HB4.out (.cells #[.int .i64 t.f0,.int .i64 t.f1,.string t.f2,.int .i64 t.f3.f0,.int .i64 t.f3.f1,.string t.f3.f2] 134)) hd);have BK5:=a_ (blk_below (blk_alloc BK4.out (.cells #[.int .i64 t.f0,.int .i64 t.f1,.string t.f2,.int .i64 t.f3.f0,.int .i64 t.f3.f1,.string t.f3.f2] 134)) hd);have BP5:=a_ (blk_below (blk_alloc BP4.out (.cells #[.int .i64 t.f0,.int .i64 t.f1,.string t.f2,.int .i64 t.f3.f0,.int .i64 t.f3.f1,.string t.f3.f2] 134)) hd);have SK5:=a_ ((SetS.alloc SK4.out (.cells #[.int .i64 t.f0,.int .i64 t.f1,.string t.f2,.int .i64 t.f3.f0,.int .i64 t.f3.f1,.string t.f3.f2] 134)).kept (grown_of_below hd none) (by simp));have SL5:=a_ ((SetS.alloc SL4.out (.cells #[.int .i64 t.f0,.int .i64 t.f1,.string t.f2,.int .i64 t.f3.f0,.int .i64 t.f3.f1,.string t.f3.f2] 134)).kept (grown_of_below hd none) (by simp));have BT5:=blk_below (blk_new wr (.cells #[.int .i64 t.f0,.int .i64 t.f1,.string t.f2,.int .i64 t.f3.f0,.int .i64 t.f3.f1,.string t.f3.f2] 134)) hd;have hq0:=(blk_cell BT5 0).trans rfl;have hq2:=(blk_cell BT5 2).trans rfl;simp only [List.getElem?_toArray,List.getElem?_cons_zero,List.getElem?_cons_succ] at hq0 hq2;clear hd BT5;go_wp2_with fail;refine (impl_nameSet_has.calls (wa.heap.size+1) nL L t.f2 _ SL5.out HSZ.out).mono ?_;rintro e w6 ⟨rfl,hd⟩;have HB6:=a_ (below_step HB5.out hd);have BK6:=a_ (blk_below BK5.out hd);have BP6:=a_ (blk_below BP5.out hd);have SK6:=a_ (SK5.out.kept (grown_of_below hd none) (by simp));have SL6:=a_ (SL5.out.kept (grown_of_below hd none) (by simp));have hv0:=pw_cell_below hd hq0;have hv2:=pw_cell_below hd hq2;clear hd;go_wp2;go_roundg (p5.f2.length-(j+1))
       case measure=>omega
       case rel=>exact ⟨j+1,nL,L,by omega,by omega,by rw [HWJ.out],⟨by have:=HNL.out;omega⟩,HST2,HB6,BK6,BP6,SK6,SL6⟩
      | false=>
       rw [if_pos ⟨k3,hemp,hk,hl⟩] at hst;have e1:=Option.some.inj hst;have hs2:=HST.out;rw [←e1,if_neg (by simp)] at hs2;have e2:=Option.some.inj hs2;have hs3:=HH.out;rw [←e2] at hs3;have hn1:¬((i:Int)+1=-1):=by omega
       replace hs3:(if (i:Int)+1=-1 then _ else some ((i:Int)+1))=some r:=hs3
       rw [if_neg hn1] at hs3;have HR:Aside0 ((i:Int)+1=r):=⟨Option.some.inj hs3⟩
       clear hst k3 n2 e1 hs2 e2 hs3 hn1;go_wp2_with fail;refine (impl_nameSet_has.calls (w.heap.size+1) nK K t.f2 _ (SetS.alloc SK4.out (.cells #[.int .i64 t.f0,.int .i64 t.f1,.string t.f2,.int .i64 t.f3.f0,.int .i64 t.f3.f1,.string t.f3.f2] 134)) HSZ.out).mono ?_;rintro e w5 ⟨rfl,hd⟩;have HB5:=a_ (below_step (below_alloc HB4.out (.cells #[.int .i64 t.f0,.int .i64 t.f1,.string t.f2,.int .i64 t.f3.f0,.int .i64 t.f3.f1,.string t.f3.f2] 134)) hd);have BK5:=a_ (blk_below (blk_alloc BK4.out (.cells #[.int .i64 t.f0,.int .i64 t.f1,.string t.f2,.int .i64 t.f3.f0,.int .i64 t.f3.f1,.string t.f3.f2] 134)) hd);have BP5:=a_ (blk_below (blk_alloc BP4.out (.cells #[.int .i64 t.f0,.int .i64 t.f1,.string t.f2,.int .i64 t.f3.f0,.int .i64 t.f3.f1,.string t.f3.f2] 134)) hd);have SK5:=a_ ((SetS.alloc SK4.out (.cells #[.int .i64 t.f0,.int .i64 t.f1,.string t.f2,.int .i64 t.f3.f0,.int .i64 t.f3.f1,.string t.f3.f2] 134)).kept (grown_of_below hd none) (by simp));have SL5:=a_ ((SetS.alloc SL4.out (.cells #[.int .i64 t.f0,.int .i64 t.f1,.string t.f2,.int .i64 t.f3.f0,.int .i64 t.f3.f1,.string t.f3.f2] 134)).kept (grown_of_below hd none) (by simp));have BT5:=blk_below (blk_new wr (.cells #[.int .i64 t.f0,.int .i64 t.f1,.string t.f2,.int .i64 t.f3.f0,.int .i64 t.f3.f1,.string t.f3.f2] 134)) hd;have hq0:=(blk_cell BT5 0).trans rfl;have hq2:=(blk_cell BT5 2).trans rfl;simp only [List.getElem?_toArray,List.getElem?_cons_zero,List.getElem?_cons_succ] at hq0 hq2;clear hd BT5;go_wp2_with fail;refine (impl_nameSet_has.calls (wa.heap.size+1) nL L t.f2 _ SL5.out HSZ.out).mono ?_;rintro e w6 ⟨rfl,hd⟩;have HB6:=a_ (below_step HB5.out hd);have BK6:=a_ (blk_below BK5.out hd);have BP6:=a_ (blk_below BP5.out hd);have SK6:=a_ (SK5.out.kept (grown_of_below hd none) (by simp));have SL6:=a_ (SL5.out.kept (grown_of_below hd none) (by simp));have hv0:=pw_cell_below hd hq0;have hv2:=pw_cell_below hd hq2;clear hd;go_wp2;go_ret;exact ⟨by rw [←HR.out,show wrap64 ((i:Int)+1)=(i:Int)+1 by unfold wrap64;have:=C0.out.1;omega];rfl,HB6.out⟩
   ·have p3:(t.f0==3)=false:=by simpa using k3
    rw [if_neg (fun q=>k3 q.1)] at hst;by_cases k2:t.f0=2
    ·have p2:(t.f0==2)=true:=by simpa using k2
     rw [if_pos k2] at hst;have HST2:=a_ hst;clear hst k3 k2;go_wp2_with (at_mapUpdate;refine wpList_addS rfl _ _ _ 124 126 Tryz.underlying124 rfl (wa.heap.size+1) nL L (SetS.alloc SL4.out _) (lt_maxLen (by have:=HNL.out;have:=HJ6.out;omega)) rfl t.f2 HSZ.out rfl rfl ?_;intro w2 hs2 hg2;have HB5:Aside0 (Below w.heap.size w w2):=⟨(below_alloc HB4.out _).grown hg2 (by have:=HS1.out;have:=HB4.out.size;simp;omega) (by intro q e;injection e with e;have:=HS1.out;omega)⟩;have BK5:=a_ (blk_grown (blk_alloc BK4.out (.cells #[.int .i64 t.f0,.int .i64 t.f1,.string t.f2,.int .i64 t.f3.f0,.int .i64 t.f3.f1,.string t.f3.f2] 134)) hg2 (by intro e;injection e with e;have:=HS1.out;omega));have BP5:=a_ (blk_grown (blk_alloc BP4.out (.cells #[.int .i64 t.f0,.int .i64 t.f1,.string t.f2,.int .i64 t.f3.f0,.int .i64 t.f3.f1,.string t.f3.f2] 134)) hg2 (by intro e;injection e with e;omega));have SK5:=a_ ((SetS.alloc SK4.out (.cells #[.int .i64 t.f0,.int .i64 t.f1,.string t.f2,.int .i64 t.f3.f0,.int .i64 t.f3.f1,.string t.f3.f2] 134)).kept hg2 (by intro e;injection e with e;have:=HS1.out;omega));have SL5:=a_ hs2;clear hs2 hg2;go_frame);go_roundg (p5.f2.length-(j+1))
     case measure=>omega
     case rel=>exact ⟨j+1,nL+1,t.f2::L,by omega,by omega,by rw [HWJ.out],⟨by have:=HNL.out;omega⟩,HST2,HB5,BK5,BP5,SK5,SL5⟩
    ·have p2:(t.f0==2)=false:=by simpa using k2
     rw [if_neg k2] at hst;have HST2:=a_ hst;clear hst k3 k2;go_wp2;go_roundg (p5.f2.length-(j+1))
     case measure=>omega
     case rel=>exact ⟨j+1,nL,L,by omega,by omega,by rw [HWJ.out],⟨by have:=HNL.out;omega⟩,HST2,⟨below_alloc HB4.out _⟩,⟨blk_alloc BK4.out _⟩,⟨blk_alloc BP4.out _⟩,⟨SetS.alloc SK4.out _⟩,⟨SetS.alloc SL4.out _⟩⟩
  ·have hjl:j=p5.f2.length:=by omega
   have e0:=HT.out;rw [hjl,List.drop_length] at e0;unfold sc_t at e0
   have e1:=Option.some.inj e0;have hs2:=HST.out;rw [←e1,if_pos rfl] at hs2;have HST2:=a_ hs2;have HJ6:Aside0 (nL≤6):=⟨by have:=HNL.out;have:=HL6.out;omega⟩
   have HWI:Aside0 (wrap64 ((i:Int)+1)=((i+1:Nat):Int)):=⟨by unfold wrap64;have:=C0.out.1;omega⟩
   clear e0 e1 hs2 hjl HT;obtain ⟨wb,hwb⟩:∃x,x=wr:=⟨_,rfl⟩;subst hwb;have hp0:=(blk_cell BP4.out 0).trans rfl;simp only [List.getElem?_toArray,List.getElem?_cons_zero,List.getElem?_cons_succ] at hp0;cases hneg:p5.f0 with
   | true=>
    rw [hneg] at hp0;have HST3:=HST2.out;rw [hneg,if_pos rfl] at HST3;have HST4:=a_ HST3;clear HST3 hneg;go_wp2;go_roundg (ps.length-(i+1))
    case measure=>omega
    case rel=>exact ⟨i+1,nK,K,by omega,by omega,by rw [HWI.out],⟨by have:=HN.out;omega⟩,HST4,HB4,BK4,SK4⟩
   | false=>
    rw [hneg] at hp0;have HST3:=HST2.out;rw [hneg,if_neg (by simp)] at HST3;have HST4:=a_ HST3;clear HST3 hneg;have hbs:wa.heap.size+1<wb.heap.size:=SL4.out.lt
    have HBS:=a_ hbs;clear hbs;go_wp2_with (at_range;refine wpList_rangeU rfl _ 124 126 Tryz.underlying124 rfl (wa.heap.size+1) nL L SL4.out (w.heap.size+1) nK K SK4.out rfl ?_;intro w2 cnt0 hu2 hg2 hs2;have HU2:=a_ hu2;have HB5:Aside0 (Below w.heap.size w w2):=⟨HB4.out.grown hg2 HB4.out.size (fun _ e=>by cases e)⟩;have BK5:=a_ (blk_grown BK4.out hg2 (by simp));clear hu2 hg2 hs2;go_frame);go_loopg [9] cnt0 (fun gg v9 wr=>∃cnt:Nat,cnt≤gg∧Aside0 (URel wr (wa.heap.size+1) wb.heap.size nL L (w.heap.size+1) nK K cnt)∧Aside0 (Below w.heap.size w wr)∧Aside0 (wr.heap[w.heap.size]?=some (.cells #[.string nm,.int .i64 sa,.slice (some ad) ps.length c2,.slice A3 es.length c3,.slice A4 as_.length c4] 58 (0,0))))
    case atStart=>exact ⟨cnt0,Nat.le_refl _,HU2,HB5,BK5⟩
    obtain ⟨cnt,hcg,HU,HB6,BK6⟩:=hrel;go_wp2_with (at_next;refine wpList_nextU rfl _ rfl (wa.heap.size+1) wb.heap.size nL L (w.heap.size+1) nK K cnt rfl HU.out ?_ ?_)
    ·intro hs;have SK7:=a_ hs;clear hs;go_wp2;go_roundg (ps.length-(i+1))
     case measure=>omega
     case rel=>exact ⟨i+1,nK+nL,L++K,by omega,by omega,by rw [HWI.out],⟨by have:=HN.out;have:=HJ6.out;omega⟩,HST4,HB6,BK6,SK7⟩
    ·intro x w3 cnt3 hxs hlt3 hmid hg3 hs3 hen;have HM:=a_ hmid;have HXS:=a_ hxs;have HB7:Aside0 (Below w.heap.size w w3):=⟨HB6.out.grown hg3 HB6.out.size (by intro q e;injection e with e;have:=HS1.out;have:=HBS.out;omega)⟩
     have BK7:=a_ (blk_grown BK6.out hg3 (by intro e;injection e with e;have:=HS1.out;have:=HBS.out;omega));clear hmid hxs hg3 hs3;go_wp2_with (at_mapUpdate;refine wpList_addU rfl _ _ _ 124 126 Tryz.underlying124 rfl (wa.heap.size+1) wb.heap.size nL L (w.heap.size+1) nK K cnt3 x HM.out (by have:=HS1.out;omega) (lt_maxLen (by have:=HN.out;have:=HJ6.out;have:=C0.out.1;omega)) rfl HXS.out rfl rfl ?_;intro w4 hu4 hg4;have HU4:=a_ hu4;have HB8:Aside0 (Below w.heap.size w w4):=⟨HB7.out.grown hg4 HB7.out.size (by intro q e;injection e with e;omega)⟩;have BK8:=a_ (blk_grown BK7.out hg4 (by intro e;injection e with e;omega));clear hu4 hg4;go_frame);go_roundg cnt3
     case measure=>omega
     case rel=>exact ⟨cnt3,Nat.le_refl _,HU4,HB8,BK8⟩
 ·have hil:i=ps.length:=by omega
  subst hil;have e0:=HY.out;rw [List.drop_length] at e0;unfold sc_p at e0
  have e1:=Option.some.inj e0;have h2:=HH.out;rw [←e1,if_pos rfl] at h2;have HA:Aside0 (sc_acts es K ps.length (as_.drop 0) 0 0=some r):=⟨h2⟩
  clear e0 e1 h2 HY HH;have ha4:=(blk_cell BK.out 4).trans rfl;simp only [List.getElem?_toArray,List.getElem?_cons_zero,List.getElem?_cons_succ] at ha4;go_wp2;go_loopg [83,10] as_.length (fun gg v83 v10 wr=>∃(m:Nat) (k:Int),m≤as_.length∧as_.length-m≤gg∧v83=.int .i64 (m:Int)∧v10=.int .i64 k∧Aside0 (sc_acts es K ps.length (as_.drop m) m k=some r)∧Aside0 (Below w.heap.size w wr)∧Aside0 (wr.heap[w.heap.size]?=some (.cells #[.string nm,.int .i64 sa,.slice A2 ps.length c2,.slice A3 es.length c3,.slice A4 as_.length c4] 58 (0,0)))∧Aside0 (SetS wr (w.heap.size+1) nK K))
  case atStart=>exact ⟨0,0,Nat.zero_le _,Nat.le_refl _,rfl,rfl,HA,HB,BK,SK⟩
  clear HA ha4 HB BK SK;obtain ⟨m,k,hm,hggm,rfl,rfl,HA,HB,BK,SK⟩:=hrel;by_cases hltm:m<as_.length
  ·have hz:(m:Int)<(as_.length:Int):=by omega
   have hz0:(0:Int)≤(m:Int):=by omega
   have HM8:Aside0 (m≤8):=⟨by have:=C0.out.2.2;omega⟩
   obtain ⟨ad,A7,c7,e0,hx0,hx1,hx2,hx3,hl7,hC7⟩:=at_T108 HR4.out (m:Int) hz0 hz;cases e0;replace hx0:=mx_ HB hx0;replace hx1:=mx_ HB hx1;replace hx2:=mx_ HB hx2;replace hx3:=mx_ HB hx3;simp only [Int.toNat_natCast] at hx0 hx1 hx2 hx3;have HC7:=a_ hC7;have hst:=sc_acts_cons es K ps.length as_ m hltm k r HA.out;clear hC7 hl7;generalize rd_T108 as_ (m:Int)=a7 at *;obtain ⟨yd,hyd,hst⟩:=Option.bind_eq_some_iff.1 hst;have HD:Aside0 (sc_args es K (a7.f3.drop 0) k=some yd):=⟨hyd⟩
   have HST:=a_ hst;clear hyd hst;obtain ⟨wc,hwc⟩:∃x,x=wr:=⟨_,rfl⟩;subst hwc;go_wp2;go_loopg [91,10] a7.f3.length (fun gg v91 v10 wr=>∃(q:Nat) (k:Int),q≤a7.f3.length∧a7.f3.length-q≤gg∧v91=.int .i64 (q:Int)∧v10=.int .i64 k∧Aside0 (sc_args es K (a7.f3.drop q) k=some yd)∧Aside0 (Below w.heap.size w wr)∧Aside0 (wr.heap[w.heap.size]?=some (.cells #[.string nm,.int .i64 sa,.slice A2 ps.length c2,.slice A3 es.length c3,.slice (some ad) as_.length c4] 58 (0,0)))∧Aside0 (SetS wr (w.heap.size+1) nK K))
   case atStart=>exact ⟨0,k,Nat.zero_le _,Nat.le_refl _,rfl,rfl,HD,⟨below_alloc HB.out _⟩,⟨blk_alloc BK.out _⟩,⟨SetS.alloc SK.out _⟩⟩
   clear HD HB BK SK;obtain ⟨q,k,hq,hggq,rfl,rfl,HD,HB,BK,SK⟩:=hrel;by_cases hltq:q<a7.f3.length
   ·have hzq:(q:Int)<(a7.f3.length:Int):=by omega
    have hzq0:(0:Int)≤(q:Int):=by omega
    have HQL:Aside0 (a7.f3.length≤9223372036854775807):=⟨HC7.out.2.1⟩
    obtain ⟨adq,eq0,hxq⟩:=Kd.at_int HC7.out (q:Int) hzq0 hzq;subst eq0;replace hxq:=mx_ HB hxq;simp only [Int.toNat_natCast] at hxq;have hst:=sc_args_cons es K a7.f3 q hltq k yd HD.out;generalize rd a7.f3 (q:Int)=v at *;obtain ⟨ye,hye,hst⟩:=Option.bind_eq_some_iff.1 hst;have HE:=a_ hye;have HST2:=a_ hst;clear hye hst;obtain ⟨wd,hwd⟩:∃x,x=wr:=⟨_,rfl⟩;subst hwd;go_wp2;go_loopg [10] es.length (fun gg v10 wr=>∃(fu:Nat) (k:Int),fu≤gg∧v10=.int .i64 k∧Aside0 (sc_e es K fu k v=some ye)∧Aside0 (Below w.heap.size w wr)∧Aside0 (wr.heap[w.heap.size]?=some (.cells #[.string nm,.int .i64 sa,.slice A2 ps.length c2,.slice A3 es.length c3,.slice (some ad) as_.length c4] 58 (0,0)))∧Aside0 (SetS wr (w.heap.size+1) nK K))
    case atStart=>exact ⟨es.length,k,Nat.le_refl _,rfl,HE,HB,BK,SK⟩
    clear HE HB BK SK;obtain ⟨fu,k,hfu,rfl,HE,HB,BK,SK⟩:=hrel;by_cases hkv:k≤v
    ·cases fu with
     | zero=>
      have e0:=HE.out;unfold sc_e at e0
      rw [if_pos hkv] at e0;cases e0
     | succ fu=>
      have e0:=HE.out;unfold sc_e at e0
      rw [if_pos hkv] at e0;by_cases hc:0≤k∧k<(es.length:Int)∧(rd_T106 es k).f2.size≤maxLen
      rotate_left
      ·rw [if_neg hc] at e0;cases e0
      rw [if_pos hc] at e0;obtain ⟨hk0,hk1,hsz⟩:=hc;have HSZ:=a_ hsz;clear hsz;have HK60:Aside0 (wrap64 (k+1)=k+1):=⟨by unfold wrap64;have:=C0.out.2.1;omega⟩
      obtain ⟨ade,ee0,hx0,hx1,hx2,hx3,hx4,hx5,hx6,hx7⟩:=at_T106 HR3.out k hk0 hk1;cases ee0;replace hx0:=mx_ HB hx0;replace hx1:=mx_ HB hx1;replace hx2:=mx_ HB hx2;replace hx3:=mx_ HB hx3;replace hx4:=mx_ HB hx4;replace hx5:=mx_ HB hx5;replace hx6:=mx_ HB hx6;replace hx7:=mx_ HB hx7;have hb3:=(blk_cell BK.out 3).trans rfl;simp only [List.getElem?_toArray,List.getElem?_cons_zero,List.getElem?_cons_succ] at hb3;have qkv:decide (k≤v)=true:=decide_eq_true hkv
      generalize rd_T106 es k=x at *;by_cases k1:x.f0=1
      ·have p1:(x.f0==1)=true:=by simpa using k1
       cases hk:memS x.f2 K with
       | true=>
        rw [if_neg (fun q=>by have:=q.2;rw [hk] at this;cases this)] at e0;have HE2:=a_ e0;clear e0 k1 hkv;go_wp2_with fail;refine (impl_nameSet_has.calls (w.heap.size+1) nK K x.f2 _ (SetS.alloc SK.out (.cells #[.int .i64 x.f0,.int .u8 x.f1,.string x.f2,.int .i64 x.f3.f0,.int .i64 x.f3.f1,.string x.f3.f2,.int .i64 x.f4,.int .i64 x.f5] 106)) HSZ.out).mono ?_;rintro e w5 ⟨rfl,hd⟩;have HB5:=a_ (below_step (below_alloc HB.out (.cells #[.int .i64 x.f0,.int .u8 x.f1,.string x.f2,.int .i64 x.f3.f0,.int .i64 x.f3.f1,.string x.f3.f2,.int .i64 x.f4,.int .i64 x.f5] 106)) hd);have BK5:=a_ (blk_below (blk_alloc BK.out (.cells #[.int .i64 x.f0,.int .u8 x.f1,.string x.f2,.int .i64 x.f3.f0,.int .i64 x.f3.f1,.string x.f3.f2,.int .i64 x.f4,.int .i64 x.f5] 106)) hd);have SK5:=a_ ((SetS.alloc SK.out (.cells #[.int .i64 x.f0,.int .u8 x.f1,.string x.f2,.int .i64 x.f3.f0,.int .i64 x.f3.f1,.string x.f3.f2,.int .i64 x.f4,.int .i64 x.f5] 106)).kept (grown_of_below hd none) (by simp));clear hd;go_wp2;go_roundg fu
        case measure=>omega
        case rel=>exact ⟨fu,k+1,Nat.le_refl _,by rw [HK60.out],HE2,HB5,BK5,SK5⟩
       | false=>
        rw [if_pos ⟨k1,hk⟩] at e0;have e1:=Option.some.inj e0;have h3:=HST2.out;rw [←e1,if_neg (by simp)] at h3;have e2:=Option.some.inj h3;have h4:=HST.out;rw [←e2,if_neg (by simp)] at h4;have HR:Aside0 ((ps.length:Int)+(m:Int)+1=r):=⟨Option.some.inj h4⟩
        clear e0 e1 h3 e2 h4 k1 hkv;go_wp2_with fail;refine (impl_nameSet_has.calls (w.heap.size+1) nK K x.f2 _ (SetS.alloc SK.out (.cells #[.int .i64 x.f0,.int .u8 x.f1,.string x.f2,.int .i64 x.f3.f0,.int .i64 x.f3.f1,.string x.f3.f2,.int .i64 x.f4,.int .i64 x.f5] 106)) HSZ.out).mono ?_;rintro e w5 ⟨rfl,hd⟩;have HB5:=a_ (below_step (below_alloc HB.out (.cells #[.int .i64 x.f0,.int .u8 x.f1,.string x.f2,.int .i64 x.f3.f0,.int .i64 x.f3.f1,.string x.f3.f2,.int .i64 x.f4,.int .i64 x.f5] 106)) hd);have BK5:=a_ (blk_below (blk_alloc BK.out (.cells #[.int .i64 x.f0,.int .u8 x.f1,.string x.f2,.int .i64 x.f3.f0,.int .i64 x.f3.f1,.string x.f3.f2,.int .i64 x.f4,.int .i64 x.f5] 106)) hd);have SK5:=a_ ((SetS.alloc SK.out (.cells #[.int .i64 x.f0,.int .u8 x.f1,.string x.f2,.int .i64 x.f3.f0,.int .i64 x.f3.f1,.string x.f3.f2,.int .i64 x.f4,.int .i64 x.f5] 106)).kept (grown_of_below hd none) (by simp));clear hd;have hb2:=(blk_cell BK5.out 2).trans rfl;simp only [List.getElem?_toArray,List.getElem?_cons_zero,List.getElem?_cons_succ] at hb2;go_wp2;go_ret;exact ⟨by rw [←HR.out,show wrap64 ((ps.length:Int)+(m:Int))=(ps.length:Int)+(m:Int) by unfold wrap64;have:=C0.out.1;have:=HM8.out;omega,show wrap64 ((ps.length:Int)+(m:Int)+1)=(ps.length:Int)+(m:Int)+1 by unfold wrap64;have:=C0.out.1;have:=HM8.out;omega];rfl,HB5.out⟩
      ·have p1:(x.f0==1)=false:=by simpa using k1
       rw [if_neg (fun q=>k1 q.1)] at e0;have HE2:=a_ e0;clear e0 k1 hkv;go_wp2;go_roundg fu
       case measure=>omega
       case rel=>exact ⟨fu,k+1,Nat.le_refl _,by rw [HK60.out],HE2,⟨below_alloc HB.out _⟩,⟨blk_alloc BK.out _⟩,⟨SetS.alloc SK.out _⟩⟩
    ·have qkv:decide (k≤v)=false:=decide_eq_false hkv
     have e0:sc_e es K fu k v=some (true,k):=by
      cases fu<;>(unfold sc_e;rw [if_neg hkv])
     rw [HE.out] at e0;have e1:=Option.some.inj e0;have h3:=HST2.out;rw [e1,if_pos rfl] at h3;have HST3:=a_ h3;clear e0 e1 h3 hkv;go_wp2;go_roundg (a7.f3.length-(q+1))
     case measure=>omega
     case rel=>exact ⟨q+1,k,by omega,by omega,by rw [show wrap64 ((q:Int)+1)=((q+1:Nat):Int) by unfold wrap64;have:=HQL.out;omega],rfl,HST3,HB,BK,SK⟩
   ·have hql:q=a7.f3.length:=by omega
    have e0:=HD.out;rw [hql,List.drop_length] at e0;unfold sc_args at e0
    have e1:=Option.some.inj e0;have h3:=HST.out;rw [←e1,if_pos rfl] at h3;have HST3:=a_ h3;clear e0 e1 h3 hql;go_wp2;go_roundg (as_.length-(m+1))
    case measure=>omega
    case rel=>exact ⟨m+1,k,by omega,by omega,by rw [show wrap64 ((m:Int)+1)=((m+1:Nat):Int) by unfold wrap64;have:=HM8.out;omega],rfl,HST3,HB,BK,SK⟩
  ·have hml:m=as_.length:=by omega
   have e0:=HA.out;rw [hml,List.drop_length] at e0;unfold sc_acts at e0
   have e1:=Option.some.inj e0;subst e1;clear e0 hml;go_wp2;go_ret;exact ⟨rfl,HB.out⟩
theorem impl_Rule_scopeFault.calls (a0_0:ByteArray) (a0_1:Int) (A0_2:Option Addr) (c0_2:Nat) (l0_2:List S101) (A0_3:Option Addr) (c0_3:Nat) (l0_3:List S106) (A0_4:Option Addr) (c0_4:Nat) (l0_4:List S108) (r:Int) (w:World) (hr0_2:Kd.C k101 w A0_2 l0_2.length l0_2) (hc0_2:l0_2.length≤c0_2) (hr0_3:Kd.C k106 w A0_3 l0_3.length l0_3) (hc0_3:l0_3.length≤c0_3) (hr0_4:Kd.C k108 w A0_4 l0_4.length l0_4) (hc0_4:l0_4.length≤c0_4) (h:impl_Rule_scopeFault.f a0_0 a0_1 l0_2 l0_3 l0_4=some r):
  Calls Tryz.prog 78 #[.agg #[.string a0_0,.int .i64 a0_1,.slice A0_2 l0_2.length c0_2,.slice A0_3 l0_3.length c0_3,.slice A0_4 l0_4.length c0_4]] w fun e w'=>e=.returned (.int .i64 r)∧Below w.heap.size w w':=
 impl_Rule_scopeFault.walk a0_0 a0_1 A0_2 c0_2 l0_2 A0_3 c0_3 l0_3 A0_4 c0_4 l0_4 r w hr0_2 hr0_3 hr0_4 h
end Go.Proofs.YtejjlkbbnhpbdaaGreat.P
namespace Go.Proofs.YtejjlkbbnhpbdaaGreat.P
open Go.Proofs.YtejjlkbbnhpbdaaGreatX
open Go.RowKit Go.Proofs.YtejjlkbbnhpbdaaGreatW.PrintWords Go.Proofs.YtejjlkbbnhpbdaaGreatW.PrintLast Go.Proofs.YtejjlkbbnhpbdaaGreatW.PrintMore
attribute [local go_sem] max2_int min2_int max_two min_two max_three min_three max_four min_four
set_option linter.unusedVariables false
set_option linter.unusedSimpArgs false
open Go.Proofs.YtejjlkbbnhpbdaaGreatX
def ck_acts (n:Int) (lp:Nat):List S108→Nat→Int
 | [],_=>-1
 | a::as_,j=>if (a.f0=2∨a.f0=3)∧(a.f1<1∨n<a.f1) then (lp:Int)+(j:Int)+1 else ck_acts n lp as_ (j+1)
def ck_rules (k:Nat):List S58→Nat→List ByteArray→Option (Int×Int×Int)
 | [],_,_=>some (0,0,0)
 | q::qs,i,M=>if q.f0.size≤maxLen then (impl_Rule_shapeFault.f q.f0 q.f1 q.f2 q.f3 q.f4).bind fun s=>if 0≤s then some (1,(i:Int),s) else
   if memS q.f0 M=true then some (2,(i:Int),0) else
   (impl_Rule_positives.f k q.f0 q.f1 q.f2 q.f3 q.f4).bind fun n=>if n<1∨3<n then some (3,(i:Int),0) else
   (impl_Rule_scopeFault.f q.f0 q.f1 q.f2 q.f3 q.f4).bind fun c=>if 0≤c then some (4,(i:Int),c) else
   if q.f2.length≤6∧q.f4.length≤8 then (if ck_acts n q.f2.length q.f4 0=-1 then ck_rules k qs (i+1) (q.f0::M) else some (5,(i:Int),ck_acts n q.f2.length q.f4 0)) else none
  else none
def impl_CheckRules.f (k:Nat) (l0:List S58):Option (Int×Int×Int):=if 16<l0.length then some (1,0,0) else ck_rules k l0 0 []
theorem ck_rules_mono (k:Nat):∀(l:List S58) (i:Nat) (M:List ByteArray),LeO (ck_rules k l i M) (ck_rules (k+1) l i M)
 | [],i,M=>LeO.refl _
 | q::qs,i,M=>LeO.ite (LeO.bind (LeO.refl _) (fun _=>LeO.ite (LeO.refl _) (LeO.ite (LeO.refl _) (LeO.bind (impl_Rule_positives.mono _ _ _ _ _ k) (fun _=>LeO.ite (LeO.refl _) (LeO.bind (LeO.refl _) (fun _=>LeO.ite (LeO.refl _) (LeO.ite (LeO.ite (ck_rules_mono k qs _ _) (LeO.refl _)) (LeO.refl _))))))))) (LeO.refl _)
theorem impl_CheckRules.mono:∀a0 k,LeO (impl_CheckRules.f k a0) (impl_CheckRules.f (k+1) a0):=by
 intro a0 k;unfold impl_CheckRules.f
 exact LeO.ite (LeO.refl _) (ck_rules_mono k _ _ _)
theorem ck_acts_cons (n:Int) (lp:Nat) (as_:List S108) (j:Nat) (h:j<as_.length) (v:Int) (hg:ck_acts n lp (as_.drop j) j=v):(if ((rd_T108 as_ (j:Int)).f0=2∨(rd_T108 as_ (j:Int)).f0=3)∧((rd_T108 as_ (j:Int)).f1<1∨n<(rd_T108 as_ (j:Int)).f1) then (lp:Int)+(j:Int)+1 else ck_acts n lp (as_.drop (j+1)) (j+1))=v:=by
 have e:rd_T108 as_ (j:Int)=as_[j]:=by
  unfold rd_T108
  simp [h]
 rw [List.drop_eq_getElem_cons h] at hg;unfold ck_acts at hg
 rw [e];exact hg
theorem ck_rules_cons (k:Nat) (l:List S58) (i:Nat) (h:i<l.length) (M:List ByteArray) (y:Int×Int×Int) (hg:ck_rules k (l.drop i) i M=some y):
  (fun q:S58=>if q.f0.size≤maxLen then (impl_Rule_shapeFault.f q.f0 q.f1 q.f2 q.f3 q.f4).bind fun s=>if 0≤s then some (1,(i:Int),s) else
   if memS q.f0 M=true then some (2,(i:Int),0) else
   (impl_Rule_positives.f k q.f0 q.f1 q.f2 q.f3 q.f4).bind fun n=>if n<1∨3<n then some (3,(i:Int),0) else
   (impl_Rule_scopeFault.f q.f0 q.f1 q.f2 q.f3 q.f4).bind fun c=>if 0≤c then some (4,(i:Int),c) else
   if q.f2.length≤6∧q.f4.length≤8 then (if ck_acts n q.f2.length q.f4 0=-1 then ck_rules k (l.drop (i+1)) (i+1) (q.f0::M) else some (5,(i:Int),ck_acts n q.f2.length q.f4 0)) else none
  else none) (rd_T58 l (i:Int))=some y:=by
 have e:rd_T58 l (i:Int)=l[i]:=by
  unfold rd_T58
  simp [h]
 rw [List.drop_eq_getElem_cons h] at hg;unfold ck_rules at hg
 rw [e];exact hg
theorem ck_res {w:World} {g:Nat} {a b c x y z:Int} (h:w.heap[g]?=some (.cells #[.int .i64 a,.int .i64 b,.int .i64 c] 80 (0,0))):
  (((w.setCell ⟨g,0,none⟩ (.int .i64 x)).setCell ⟨g,1,none⟩ (.int .i64 y)).setCell ⟨g,2,none⟩ (.int .i64 z)).heap[g]?=some (.cells #[.int .i64 x,.int .i64 y,.int .i64 z] 80 (0,0)):=
 blk_put (blk_put (blk_put h 0 _ rfl) 1 _ rfl) 2 _ rfl
theorem ck_below {w W:World} {g:Nat} {u v x:Value} (h:Below w.heap.size w W) (hg:w.heap.size≤g):Below w.heap.size w (((W.setCell ⟨g,0,none⟩ u).setCell ⟨g,1,none⟩ v).setCell ⟨g,2,none⟩ x):=
 below_set (below_set (below_set h hg) hg) hg
theorem u585_2 {p:Prop} (h:p:=by
 exact ⟨j+1,by omega,by omega,by rw [show wrap64 ((j:Int)+1)=((j+1:Nat):Int) by unfold wrap64;have:=HJ8.out;omega],HM2,⟨below_alloc HB6.out _⟩,⟨blk_alloc BR6.out _⟩,⟨blk_alloc BX6.out _⟩,⟨SetS.alloc SN6.out _⟩⟩):p:=h
theorem u585_0 {p:Prop} (h:p:=by
 subst hac;have h2:=HST.out;rw [if_neg (by omega)] at h2;cases h2;have hb2:=(blk_cell (blk_alloc BX6.out (.cells #[.int .i64 a.f0,.int .i64 a.f1,.string a.f2,.slice A7 a.f3.length c7] 108)) 2).trans rfl;have hr0:=(blk_cell (blk_alloc BR6.out (.cells #[.int .i64 a.f0,.int .i64 a.f1,.string a.f2,.slice A7 a.f3.length c7] 108)) 0).trans rfl;have hr1:=(blk_cell (blk_alloc BR6.out (.cells #[.int .i64 a.f0,.int .i64 a.f1,.string a.f2,.slice A7 a.f3.length c7] 108)) 1).trans rfl;have hr2:=(blk_cell (blk_alloc BR6.out (.cells #[.int .i64 a.f0,.int .i64 a.f1,.string a.f2,.slice A7 a.f3.length c7] 108)) 2).trans rfl;have hf0:=blk_frozen (blk_alloc BR6.out (.cells #[.int .i64 a.f0,.int .i64 a.f1,.string a.f2,.slice A7 a.f3.length c7] 108)) 0;have hf1:=blk_frozen (blk_alloc BR6.out (.cells #[.int .i64 a.f0,.int .i64 a.f1,.string a.f2,.slice A7 a.f3.length c7] 108)) 1;have hf2:=blk_frozen (blk_alloc BR6.out (.cells #[.int .i64 a.f0,.int .i64 a.f1,.string a.f2,.slice A7 a.f3.length c7] 108)) 2;simp only [List.getElem?_toArray,List.getElem?_cons_zero,List.getElem?_cons_succ] at hb2 hr0 hr1 hr2;have HW1:Aside0 (wrap64 ((q.f2.length:Int)+(j:Int))=(q.f2.length:Int)+(j:Int)∧wrap64 ((q.f2.length:Int)+(j:Int)+1)=(q.f2.length:Int)+(j:Int)+1):=⟨by unfold wrap64;have:=HLN.out.1;have:=HJ8.out;omega⟩
 go_wp2;rw [HW1.out.1,HW1.out.2];refine bodyPost_ret (results_cell_row rfl _ _ w.heap.size 80 _ (0,0) _ rfl (ck_res (blk_alloc BR6.out (.cells #[.int .i64 a.f0,.int .i64 a.f1,.string a.f2,.slice A7 a.f3.length c7] 108))) Tryz.underlying80 rfl (by kernel_rfl)) rfl ⟨rfl,ck_below (below_alloc HB6.out (.cells #[.int .i64 a.f0,.int .i64 a.f1,.string a.f2,.slice A7 a.f3.length c7] 108)) (Nat.le_refl _)⟩):p:=h
theorem u585_1 {p:Prop} (h:p:=by
 have p5:decide (n<a.f1)=false:=decide_eq_false b2
 rw [if_neg (by intro z;rcases z.2 with z|z;exact b1 z;exact b2 z)] at hac;have HM2:=a_ hac;clear hac b1 b2;go_wp2;go_roundg (q.f4.length-(j+1))
 case measure=>omega
 case rel=>exact u585_2):p:=h
set_option maxHeartbeats 16000000 in
set_option maxRecDepth 100000 in
theorem impl_CheckRules.calls (k:Nat) (A0:Option Addr) (c0:Nat) (l0:List (S58)) (r1:Int) (r2:Int) (r3:Int) (w:World) (hr0:Kd.C k58 w A0 l0.length l0) (hc0:l0.length≤c0) (h:impl_CheckRules.f k l0=some (r1,r2,r3)):
  Calls Tryz.prog 55 #[.slice A0 l0.length c0] w fun e w'=>e=.returned (.agg #[.int .i64 r1,.int .i64 r2,.int .i64 r3])∧Below w.heap.size w w':=by
 have hu:=Tryz.underlying58;have hu2:=Tryz.underlying108;have hu3:=Tryz.underlying80;have HR0:=a_ hr0;clear hr0 hc0;have HB0:=a_ (below_alloc (Below.refl w.heap.size w) (.cells #[.int .i64 0,.int .i64 0,.int .i64 0] 80));have BR0:=a_ (blk_new w (.cells #[.int .i64 0,.int .i64 0,.int .i64 0] 80));unfold impl_CheckRules.f at h
 by_cases c16:16<l0.length
 ·rw [if_pos c16] at h;cases h;have q16:decide ((16:Int)<(l0.length:Int))=true:=decide_eq_true (by omega)
  clear c16;go_enter Tryz.func55,Tryz.ntmps55;go_wp2;refine bodyPost_ret (results_cell_row rfl _ _ w.heap.size 80 #[.int .i64 1,.int .i64 0,.int .i64 0] (0,0) _ rfl (blk_new w _) Tryz.underlying80 rfl (by kernel_rfl)) rfl ⟨rfl,below_alloc (Below.refl _ _) _⟩
 rw [if_neg c16] at h;have q16:decide ((16:Int)<(l0.length:Int))=false:=decide_eq_false (by omega)
 have L16:Aside0 (l0.length≤16):=⟨by omega⟩
 clear c16;have HY:Aside0 (ck_rules k (l0.drop 0) 0 []=some (r1,r2,r3)):=⟨h⟩
 clear h;have HB:=a_ (below_alloc HB0.out (.map #[] 0));have BR:=a_ (blk_alloc BR0.out (.map #[] 0));have SN:Aside0 (SetS ((w.alloc (.cells #[.int .i64 0,.int .i64 0,.int .i64 0] 80)).alloc (.map #[] 0)) (w.heap.size+1) 0 []):=⟨by have:=SetS_made (w.alloc (.cells #[.int .i64 0,.int .i64 0,.int .i64 0] 80));rwa [show (w.alloc (.cells #[.int .i64 0,.int .i64 0,.int .i64 0] 80)).heap.size=w.heap.size+1 by simp] at this⟩
 clear BR0 HB0;have hmm:=@run_makeMap Tryz.prog;go_enter Tryz.func55,Tryz.ntmps55;go_wp2;go_loopg [18] l0.length (fun gg v18 wr=>∃(i nN:Nat) (M:List ByteArray),i≤l0.length∧l0.length-i≤gg∧v18=.int .i64 (i:Int)∧Aside0 (nN≤i)∧Aside0 (ck_rules k (l0.drop i) i M=some (r1,r2,r3))∧Aside0 (Below w.heap.size w wr)∧Aside0 (wr.heap[w.heap.size]?=some (.cells #[.int .i64 0,.int .i64 0,.int .i64 0] 80 (0,0)))∧Aside0 (SetS wr (w.heap.size+1) nN M))
 case atStart=>exact ⟨0,0,[],Nat.zero_le _,Nat.le_refl _,rfl,⟨Nat.le_refl _⟩,HY,HB,BR,SN⟩
 clear HY HB BR SN;obtain ⟨i,nN,M,hi,hgg,rfl,HN,HY,HB,BR,SN⟩:=hrel;obtain ⟨wa,hwa⟩:∃x,x=wr:=⟨_,rfl⟩;subst hwa;by_cases hlt:i<l0.length
 ·have hz:(i:Int)<(l0.length:Int):=by omega
  have hz0:(0:Int)≤(i:Int):=by omega
  have HI:Aside0 (i≤16):=⟨by have:=L16.out;omega⟩
  have HS1:Aside0 (w.heap.size+1<wa.heap.size):=⟨SN.out.lt⟩
  obtain ⟨ad,B2,d2,B3,d3,B4,d4,e0,hx0,hx1,hx2,hx3,hx4,hl2,hC2,hl3,hC3,hl4,hC4⟩:=at_T58 HR0.out (i:Int) hz0 hz;cases e0;replace hx0:=mx_ HB hx0;replace hx1:=mx_ HB hx1;replace hx2:=mx_ HB hx2;replace hx3:=mx_ HB hx3;replace hx4:=mx_ HB hx4;simp only [Int.toNat_natCast] at hx0 hx1 hx2 hx3 hx4;have HC2:=a_ hC2;have HC3:=a_ hC3;have HC4:=a_ hC4;have HL2:=a_ hl2;have HL3:=a_ hl3;have HL4:=a_ hl4;have hst:=ck_rules_cons k l0 i hlt M (r1,r2,r3) HY.out;clear hC2 hC3 hC4 hl2 hl3 hl4 HY;replace hst:(fun q:S58=>_) (rd_T58 l0 (i:Int))=some (r1,r2,r3):=hst
  generalize rd_T58 l0 (i:Int)=q at *;simp only [] at hst;by_cases hsz:q.f0.size≤maxLen
  rotate_left
  ·rw [if_neg hsz] at hst;cases hst
  rw [if_pos hsz] at hst;have HSZ:=a_ hsz;clear hsz;obtain ⟨s,hs,hst⟩:=Option.bind_eq_some_iff.1 hst;have HSF:=a_ hs;clear hs;go_wp2_with fail;refine (impl_Rule_shapeFault.calls q.f0 q.f1 B2 d2 q.f2 B3 d3 q.f3 B4 d4 q.f4 s _ (Kd.C_below HC2.out (below_alloc HB.out _)) HL2.out (Kd.C_below HC3.out (below_alloc HB.out _)) HL3.out (Kd.C_below HC4.out (below_alloc HB.out _)) HL4.out HSF.out).mono ?_;rintro e w1 ⟨rfl,hd⟩;have HB1:=a_ (below_step (below_alloc HB.out (.cells #[.string q.f0,.int .i64 q.f1,.slice B2 q.f2.length d2,.slice B3 q.f3.length d3,.slice B4 q.f4.length d4] 58)) hd);have BR1:=a_ (blk_below (blk_alloc BR.out (.cells #[.string q.f0,.int .i64 q.f1,.slice B2 q.f2.length d2,.slice B3 q.f3.length d3,.slice B4 q.f4.length d4] 58)) hd);have BX1:=a_ (blk_below (blk_new wa (.cells #[.string q.f0,.int .i64 q.f1,.slice B2 q.f2.length d2,.slice B3 q.f3.length d3,.slice B4 q.f4.length d4] 58)) hd);have SN1:=a_ ((SetS.alloc SN.out (.cells #[.string q.f0,.int .i64 q.f1,.slice B2 q.f2.length d2,.slice B3 q.f3.length d3,.slice B4 q.f4.length d4] 58)).kept (grown_of_below hd none) (by simp));clear hd hx0 hx1 hx2 hx3 hx4;by_cases s0:0≤s
  ·rw [if_pos s0] at hst;have q0:decide (0≤s)=true:=decide_eq_true s0
   clear s0;cases hst;have hr0:=(blk_cell BR1.out 0).trans rfl;have hr1:=(blk_cell BR1.out 1).trans rfl;have hr2:=(blk_cell BR1.out 2).trans rfl;have hf0:=blk_frozen BR1.out 0;have hf1:=blk_frozen BR1.out 1;have hf2:=blk_frozen BR1.out 2;simp only [List.getElem?_toArray,List.getElem?_cons_zero,List.getElem?_cons_succ] at hr0 hr1 hr2;go_wp2;refine bodyPost_ret (results_cell_row rfl _ _ w.heap.size 80 _ (0,0) _ rfl (ck_res BR1.out) Tryz.underlying80 rfl (by kernel_rfl)) rfl ⟨rfl,ck_below HB1.out (Nat.le_refl _)⟩
  rw [if_neg s0] at hst;have q0:decide (0≤s)=false:=decide_eq_false s0
  clear s0;have hxa0:=(blk_cell BX1.out 0).trans rfl;have hxa1:=(blk_cell BX1.out 1).trans rfl;have hxa2:=(blk_cell BX1.out 2).trans rfl;have hxa3:=(blk_cell BX1.out 3).trans rfl;have hxa4:=(blk_cell BX1.out 4).trans rfl;simp only [List.getElem?_toArray,List.getElem?_cons_zero,List.getElem?_cons_succ] at hxa0 hxa1 hxa2 hxa3 hxa4;go_wp2_with fail;refine (impl_nameSet_has.calls (w.heap.size+1) nN M q.f0 _ SN1.out HSZ.out).mono ?_;rintro e w2 ⟨rfl,hd⟩;have HB2:=a_ (below_step HB1.out hd);have BR2:=a_ (blk_below BR1.out hd);have BX2:=a_ (blk_below BX1.out hd);have SN2:=a_ (SN1.out.kept (grown_of_below hd none) (by simp));clear hd hxa0 hxa1 hxa2 hxa3 hxa4 HB1 BR1 BX1 SN1 q0;cases hm:memS q.f0 M with
  | true=>
   rw [if_pos hm] at hst;cases hst;have hr0:=(blk_cell BR2.out 0).trans rfl;have hr1:=(blk_cell BR2.out 1).trans rfl;have hr2:=(blk_cell BR2.out 2).trans rfl;have hf0:=blk_frozen BR2.out 0;have hf1:=blk_frozen BR2.out 1;have hf2:=blk_frozen BR2.out 2;simp only [List.getElem?_toArray,List.getElem?_cons_zero,List.getElem?_cons_succ] at hr0 hr1 hr2;go_wp2;refine bodyPost_ret (results_cell_row rfl _ _ w.heap.size 80 _ (0,0) _ rfl (ck_res BR2.out) Tryz.underlying80 rfl (by kernel_rfl)) rfl ⟨rfl,ck_below HB2.out (Nat.le_refl _)⟩
  | false=>
  rw [if_neg (by rw [hm];decide)] at hst;obtain ⟨n,hn,hst⟩:=Option.bind_eq_some_iff.1 hst;have HPN:=a_ hn;clear hn;have hxb0:=(blk_cell BX2.out 0).trans rfl;have hxb1:=(blk_cell BX2.out 1).trans rfl;have hxb2:=(blk_cell BX2.out 2).trans rfl;have hxb3:=(blk_cell BX2.out 3).trans rfl;have hxb4:=(blk_cell BX2.out 4).trans rfl;simp only [List.getElem?_toArray,List.getElem?_cons_zero,List.getElem?_cons_succ] at hxb0 hxb1 hxb2 hxb3 hxb4;go_wp2_with (at_mapUpdate;refine wpList_addS rfl _ _ _ 124 126 Tryz.underlying124 rfl (w.heap.size+1) nN M SN2.out (lt_maxLen (by have:=HN.out;have:=HI.out;omega)) rfl q.f0 HSZ.out rfl rfl ?_;intro w3 hs3 hg3;have HB3:Aside0 (Below w.heap.size w w3):=⟨HB2.out.grown hg3 HB2.out.size (by intro z e;injection e with e;omega)⟩;have BR3:=a_ (blk_grown BR2.out hg3 (by intro e;injection e with e;omega));have BX3:=a_ (blk_grown BX2.out hg3 (by intro e;injection e with e;have:=HS1.out;omega));have SN3:=a_ hs3;have hxc0:=(blk_cell BX3.out 0).trans rfl;have hxc1:=(blk_cell BX3.out 1).trans rfl;have hxc2:=(blk_cell BX3.out 2).trans rfl;have hxc3:=(blk_cell BX3.out 3).trans rfl;have hxc4:=(blk_cell BX3.out 4).trans rfl;simp only [List.getElem?_toArray,List.getElem?_cons_zero,List.getElem?_cons_succ] at hxc0 hxc1 hxc2 hxc3 hxc4;clear hs3 hg3);refine (impl_Rule_positives.calls k q.f0 q.f1 B2 d2 q.f2 B3 d3 q.f3 B4 d4 q.f4 n _ (Kd.C_below HC2.out HB3.out) HL2.out (Kd.C_below HC3.out HB3.out) HL3.out (Kd.C_below HC4.out HB3.out) HL4.out HPN.out).mono ?_;rintro e w4 ⟨rfl,hd⟩;have HB4:=a_ (below_step HB3.out hd);have BR4:=a_ (blk_below BR3.out hd);have BX4:=a_ (blk_below BX3.out hd);have SN4:=a_ (SN3.out.kept (grown_of_below hd none) (by simp));clear hd hxb0 hxb1 hxb2 hxb3 hxb4 hxc0 hxc1 hxc2 hxc3 hxc4 HB2 BR2 BX2 SN2 HB3 BR3 BX3 SN3 hm;by_cases n1:n<1
  ·rw [if_pos (Or.inl n1)] at hst;cases hst;have q1:decide (n<1)=true:=decide_eq_true n1
   clear n1;have hr0:=(blk_cell BR4.out 0).trans rfl;have hr1:=(blk_cell BR4.out 1).trans rfl;have hr2:=(blk_cell BR4.out 2).trans rfl;have hf0:=blk_frozen BR4.out 0;have hf1:=blk_frozen BR4.out 1;have hf2:=blk_frozen BR4.out 2;simp only [List.getElem?_toArray,List.getElem?_cons_zero,List.getElem?_cons_succ] at hr0 hr1 hr2;go_wp2;refine bodyPost_ret (results_cell_row rfl _ _ w.heap.size 80 _ (0,0) _ rfl (ck_res BR4.out) Tryz.underlying80 rfl (by kernel_rfl)) rfl ⟨rfl,ck_below HB4.out (Nat.le_refl _)⟩
  have q1:decide (n<1)=false:=decide_eq_false n1
  by_cases n3:3<n
  ·rw [if_pos (Or.inr n3)] at hst;cases hst;have q3:decide (3<n)=true:=decide_eq_true n3
   clear n1 n3;have hr0:=(blk_cell BR4.out 0).trans rfl;have hr1:=(blk_cell BR4.out 1).trans rfl;have hr2:=(blk_cell BR4.out 2).trans rfl;have hf0:=blk_frozen BR4.out 0;have hf1:=blk_frozen BR4.out 1;have hf2:=blk_frozen BR4.out 2;simp only [List.getElem?_toArray,List.getElem?_cons_zero,List.getElem?_cons_succ] at hr0 hr1 hr2;go_wp2;refine bodyPost_ret (results_cell_row rfl _ _ w.heap.size 80 _ (0,0) _ rfl (ck_res BR4.out) Tryz.underlying80 rfl (by kernel_rfl)) rfl ⟨rfl,ck_below HB4.out (Nat.le_refl _)⟩
  rw [if_neg (by omega)] at hst;have q3:decide (3<n)=false:=decide_eq_false n3
  clear n1 n3;obtain ⟨c,hc,hst⟩:=Option.bind_eq_some_iff.1 hst;have HCF:=a_ hc;clear hc;have hxd0:=(blk_cell BX4.out 0).trans rfl;have hxd1:=(blk_cell BX4.out 1).trans rfl;have hxd2:=(blk_cell BX4.out 2).trans rfl;have hxd3:=(blk_cell BX4.out 3).trans rfl;have hxd4:=(blk_cell BX4.out 4).trans rfl;simp only [List.getElem?_toArray,List.getElem?_cons_zero,List.getElem?_cons_succ] at hxd0 hxd1 hxd2 hxd3 hxd4;go_wp2_with fail;refine (impl_Rule_scopeFault.calls q.f0 q.f1 B2 d2 q.f2 B3 d3 q.f3 B4 d4 q.f4 c _ (Kd.C_below HC2.out HB4.out) HL2.out (Kd.C_below HC3.out HB4.out) HL3.out (Kd.C_below HC4.out HB4.out) HL4.out HCF.out).mono ?_;rintro e w5 ⟨rfl,hd⟩;have HB5:=a_ (below_step HB4.out hd);have BR5:=a_ (blk_below BR4.out hd);have BX5:=a_ (blk_below BX4.out hd);have SN5:=a_ (SN4.out.kept (grown_of_below hd none) (by simp));clear hd hxd0 hxd1 hxd2 hxd3 hxd4 HB4 BR4 BX4 SN4 q1 q3;by_cases c1:0≤c
  ·rw [if_pos c1] at hst;have q0:decide (0≤c)=true:=ct_ c1
   clear c1;cases hst;have hr0:=(blk_cell BR5.out 0).trans rfl;have hr1:=(blk_cell BR5.out 1).trans rfl;have hr2:=(blk_cell BR5.out 2).trans rfl;have hf0:=blk_frozen BR5.out 0;have hf1:=blk_frozen BR5.out 1;have hf2:=blk_frozen BR5.out 2;simp only [List.getElem?_toArray,List.getElem?_cons_zero,List.getElem?_cons_succ] at hr0 hr1 hr2;go_wp2;refine bodyPost_ret (results_cell_row rfl _ _ w.heap.size 80 _ (0,0) _ rfl (ck_res BR5.out) Tryz.underlying80 rfl (by kernel_rfl)) rfl ⟨rfl,ck_below HB5.out (Nat.le_refl _)⟩
  rw [if_neg c1] at hst;have q0:decide (0≤c)=false:=cf_ c1
  clear c1;by_cases hln:q.f2.length≤6∧q.f4.length≤8
  rotate_left
  ·rw [if_neg hln] at hst;cases hst
  rw [if_pos hln] at hst;have HLN:=a_ hln;clear hln;obtain ⟨m,hm⟩:∃m,ck_acts n q.f2.length q.f4 0=m:=⟨_,rfl⟩;rw [hm] at hst;have HM:Aside0 (ck_acts n q.f2.length (q.f4.drop 0) 0=m):=⟨hm⟩
  have HST:=a_ hst;clear hm hst;have hxe0:=(blk_cell BX5.out 0).trans rfl;have hxe1:=(blk_cell BX5.out 1).trans rfl;have hxe2:=(blk_cell BX5.out 2).trans rfl;have hxe3:=(blk_cell BX5.out 3).trans rfl;have hxe4:=(blk_cell BX5.out 4).trans rfl;simp only [List.getElem?_toArray,List.getElem?_cons_zero,List.getElem?_cons_succ] at hxe0 hxe1 hxe2 hxe3 hxe4;go_wp2;go_loopg [60] q.f4.length (fun gg v60 wr=>∃j:Nat,j≤q.f4.length∧q.f4.length-j≤gg∧v60=.int .i64 (j:Int)∧Aside0 (ck_acts n q.f2.length (q.f4.drop j) j=m)∧Aside0 (Below w.heap.size w wr)∧Aside0 (wr.heap[w.heap.size]?=some (.cells #[.int .i64 0,.int .i64 0,.int .i64 0] 80 (0,0)))∧Aside0 (wr.heap[wa.heap.size]?=some (.cells #[.string q.f0,.int .i64 q.f1,.slice B2 q.f2.length d2,.slice B3 q.f3.length d3,.slice B4 q.f4.length d4] 58 (0,0)))∧Aside0 (SetS wr (w.heap.size+1) (nN+1) (q.f0::M)))
  case atStart=>exact ⟨0,Nat.zero_le _,Nat.le_refl _,rfl,HM,HB5,BR5,BX5,SN5⟩
  clear HM HB5 BR5 BX5 SN5 hxe0 hxe1 hxe2 hxe3 hxe4 q0;obtain ⟨j,hj,hggj,rfl,HM,HB6,BR6,BX6,SN6⟩:=hrel;by_cases hltj:j<q.f4.length
  ·have hzj:(j:Int)<(q.f4.length:Int):=by omega
   have hzj0:(0:Int)≤(j:Int):=by omega
   have HJ8:Aside0 (j≤8):=⟨by have:=HLN.out.2;omega⟩
   obtain ⟨ad7,A7,c7,e0,hy0,hy1,hy2,hy3,hl7,hC7⟩:=at_T108 HC4.out (j:Int) hzj0 hzj;cases e0;replace hy0:=(HB6.out.cell (World.block_lt_of_cell? w _ hy0)).trans hy0;replace hy1:=(HB6.out.cell (World.block_lt_of_cell? w _ hy1)).trans hy1;replace hy2:=(HB6.out.cell (World.block_lt_of_cell? w _ hy2)).trans hy2;replace hy3:=(HB6.out.cell (World.block_lt_of_cell? w _ hy3)).trans hy3;simp only [Int.toNat_natCast] at hy0 hy1 hy2 hy3;have hac:=ck_acts_cons n q.f2.length q.f4 j hltj m HM.out;clear hl7 hC7 HM;generalize rd_T108 q.f4 (j:Int)=a at *;by_cases k2:a.f0=2
   ·have p2:(a.f0==2)=true:=by simpa using k2
    have K2:=a_ k2;clear k2;by_cases b1:a.f1<1
    ·have p4:decide (a.f1<1)=true:=decide_eq_true b1
     rw [if_pos ⟨(Or.inl K2.out),Or.inl b1⟩] at hac;exact u585_0
    have p4:decide (a.f1<1)=false:=decide_eq_false b1
    by_cases b2:n<a.f1
    ·have p5:decide (n<a.f1)=true:=decide_eq_true b2
     rw [if_pos ⟨(Or.inl K2.out),Or.inr b2⟩] at hac;exact u585_0
    exact u585_1
   ·have p2:(a.f0==2)=false:=by simpa using k2
    by_cases k3:a.f0=3
    ·have p3:(a.f0==3)=true:=by simpa using k3
     have K3:=a_ k3;clear k3 k2;by_cases b1:a.f1<1
     ·have p4:decide (a.f1<1)=true:=decide_eq_true b1
      rw [if_pos ⟨(Or.inr K3.out),Or.inl b1⟩] at hac;exact u585_0
     have p4:decide (a.f1<1)=false:=decide_eq_false b1
     by_cases b2:n<a.f1
     ·have p5:decide (n<a.f1)=true:=decide_eq_true b2
      rw [if_pos ⟨(Or.inr K3.out),Or.inr b2⟩] at hac;exact u585_0
     exact u585_1
    ·have p3:(a.f0==3)=false:=by simpa using k3
     rw [if_neg (by intro z;rcases z.1 with z|z;exact k2 z;exact k3 z)] at hac;have HM2:=a_ hac;clear hac k2 k3;go_wp2;go_roundg (q.f4.length-(j+1))
     case measure=>omega
     case rel=>exact u585_2
  ·have hjl:j=q.f4.length:=by omega
   have e0:=HM.out;rw [hjl,List.drop_length] at e0;unfold ck_acts at e0
   have h2:=HST.out;rw [←e0,if_pos rfl] at h2;have HY2:=a_ h2;clear e0 h2 hjl;go_wp2;go_roundg (l0.length-(i+1))
   case measure=>omega
   case rel=>exact ⟨i+1,nN+1,q.f0::M,by omega,by omega,by rw [show wrap64 ((i:Int)+1)=((i+1:Nat):Int) by unfold wrap64;have:=HI.out;omega],⟨by have:=HN.out;omega⟩,HY2,HB6,BR6,SN6⟩
 ·have hil:i=l0.length:=by omega
  subst hil;have e0:=HY.out;rw [List.drop_length] at e0;unfold ck_rules at e0
  cases e0;clear HY;have hr0:=(blk_cell BR.out 0).trans rfl;have hr1:=(blk_cell BR.out 1).trans rfl;have hr2:=(blk_cell BR.out 2).trans rfl;have hf0:=blk_frozen BR.out 0;have hf1:=blk_frozen BR.out 1;have hf2:=blk_frozen BR.out 2;simp only [List.getElem?_toArray,List.getElem?_cons_zero,List.getElem?_cons_succ] at hr0 hr1 hr2;go_wp2;refine bodyPost_ret (results_cell_row rfl _ _ w.heap.size 80 _ (0,0) _ rfl (ck_res BR.out) Tryz.underlying80 rfl (by kernel_rfl)) rfl ⟨rfl,ck_below HB.out (Nat.le_refl _)⟩
end Go.Proofs.YtejjlkbbnhpbdaaGreat.P
namespace Go.Proofs.YtejjlkbbnhpbdaaGreat.P
open Go.Proofs.YtejjlkbbnhpbdaaGreatX
open Go.RowKit Go.Proofs.YtejjlkbbnhpbdaaGreatW.PrintWords Go.Proofs.YtejjlkbbnhpbdaaGreatW.PrintLast Go.Proofs.YtejjlkbbnhpbdaaGreatW.PrintMore
attribute [local go_sem] max2_int min2_int max_two min_two max_three min_three max_four min_four
set_option linter.unusedVariables false
set_option linter.unusedSimpArgs false
open Go.Proofs.YtejjlkbbnhpbdaaGreatX
def impl_checked.f (k:Nat) (l0:List (S58)):Option (Bool):=(impl_CheckRules.f k l0).bind fun y=>(some (y.1==0))
theorem impl_checked.mono:∀a0 k,LeO (impl_checked.f k a0) (impl_checked.f (k+1) a0):=by
 intro a0 k;unfold impl_checked.f
 exact LeO.bind (impl_CheckRules.mono _ _) (fun _=>LeO.refl _)
set_option maxHeartbeats 8000000 in
set_option maxRecDepth 100000 in
theorem impl_checked.calls (k:Nat) (A0:Option Addr) (c0:Nat) (l0:List (S58)) (r:Bool) (w:World) (hr0:Kd.C k58 w A0 l0.length l0) (hc0:l0.length≤c0) (h:impl_checked.f k l0=some r):
  Calls Tryz.prog 29 #[.slice A0 l0.length c0] w fun e w'=>e=.returned (.bool r)∧Below w.heap.size w w':=by
 unfold impl_checked.f at h
 obtain ⟨⟨t1,t2,t3⟩,h1,h⟩:=Option.bind_eq_some_iff.1 h;obtain rfl:=Option.some.inj h;have H1:=a_ h1;have HR:=a_ hr0;have HC:=a_ hc0;clear h h1 hr0 hc0;have hf:∀W:World,Sem.run Tryz.prog (Instr.field 80 (.agg #[.int .i64 t1,.int .i64 t2,.int .i64 t3]) 0) W=.ok (.int .i64 t1) W:=fun W=>by kernel_rfl
 go_enter Tryz.func29,Tryz.ntmps29;go_wp2_with fail;refine (impl_CheckRules.calls k _ _ l0 t1 t2 t3 _ HR.out HC.out H1.out).mono ?_;rintro e w1 ⟨rfl,hb⟩;have HB:=a_ hb;clear hb;go_wp2;go_ret;exact ⟨rfl,HB.out⟩
end Go.Proofs.YtejjlkbbnhpbdaaGreat.P
namespace Go.Proofs.YtejjlkbbnhpbdaaGreat.P
open Go.Proofs.YtejjlkbbnhpbdaaGreatX
open Go.RowKit Go.Proofs.YtejjlkbbnhpbdaaGreatW.PrintWords Go.Proofs.YtejjlkbbnhpbdaaGreatW.PrintLast Go.Proofs.YtejjlkbbnhpbdaaGreatW.PrintMore
attribute [local go_sem] max2_int min2_int max_two min_two max_three min_three max_four min_four
set_option linter.unusedVariables false
set_option linter.unusedSimpArgs false
def cmp_isNaN_int.f (a0:Int):Option (Bool):=some (a0 != a0)
set_option maxHeartbeats 8000000 in
set_option maxRecDepth 100000 in
theorem cmp_isNaN_int.calls (a0:Int) (r:Bool) (w:World) (h:cmp_isNaN_int.f a0=some r):
  Calls Tryz.prog 99 #[.int .i64 a0] w fun e w'=>e=.returned (.bool r)∧Drawn0 w w':=by
 have H:(some (a0 != a0))=some r:=h
 clear h;obtain rfl:=oi_ H;go_enter Tryz.func99,Tryz.ntmps99;go_wp2;go_ret;exact ⟨by first|rfl|(simp;done)|(simp [*];done),by repeat (first|exact Drawn0.refl _|apply Drawn0.step)⟩
def cmp_Compare_int.f (a0:Int) (a1:Int):Option (Int):=(cmp_isNaN_int.f a0).bind fun t389=>((cmp_isNaN_int.f a1).bind fun t390=>(if t389=true then (if t390=true then (some 0) else (some (-1))) else (if t390=true then (some 1) else (if a0<a1 then (some (-1)) else (if a0>a1 then (some 1) else (some 0))))))
theorem ue19_0 {p:Prop} (h:p:=by
 obtain rfl:=oi_ H;go_enter Tryz.func79,Tryz.ntmps79;go_wp2_with (first|((with_reducible refine gate_callee (f:=99) rfl ?_);refine goesL_ (some 8) rfl rfl Tryz.func99 (by kernel_rfl) rfl #[.int .i64 a0] rfl mw_ ?_;(with_reducible refine (cmp_isNaN_int.calls a0 true _ A3.out).mono ?_);rintro e w' ⟨rfl,⟨nd,rfl⟩⟩;refine ⟨_,rfl,?_⟩)|((with_reducible refine gate_callee (f:=99) rfl ?_);refine goesL_ (some 10) rfl rfl Tryz.func99 (by kernel_rfl) rfl #[.int .i64 a1] rfl mw_ ?_;(with_reducible refine (cmp_isNaN_int.calls a1 true _ A4.out).mono ?_);rintro e w' ⟨rfl,⟨nd,rfl⟩⟩;refine ⟨_,rfl,?_⟩)|((with_reducible refine gate_callee (f:=99) rfl ?_);refine goesL_ (some 10) rfl rfl Tryz.func99 (by kernel_rfl) rfl #[.int .i64 a1] rfl mw_ ?_;(with_reducible refine (cmp_isNaN_int.calls a1 false _ A4.out).mono ?_);rintro e w' ⟨rfl,⟨nd,rfl⟩⟩;refine ⟨_,rfl,?_⟩)|((with_reducible refine gate_callee (f:=99) rfl ?_);refine goesL_ (some 8) rfl rfl Tryz.func99 (by kernel_rfl) rfl #[.int .i64 a0] rfl mw_ ?_;(with_reducible refine (cmp_isNaN_int.calls a0 false _ A3.out).mono ?_);rintro e w' ⟨rfl,⟨nd,rfl⟩⟩;refine ⟨_,rfl,?_⟩));go_ret;exact ⟨by first|rfl|(simp;done)|(simp [*];done),by repeat (first|exact Drawn0.refl _|apply Drawn0.step)⟩):p:=h
set_option maxHeartbeats 8000000 in
set_option maxRecDepth 100000 in
theorem cmp_Compare_int.calls (a0:Int) (a1:Int) (r:Int) (w:World) (h:cmp_Compare_int.f a0 a1=some r):
  Calls Tryz.prog 79 #[.int .i64 a0,.int .i64 a1] w fun e w'=>e=.returned (.int .i64 r)∧Drawn0 w w':=by
 have H:=h;unfold cmp_Compare_int.f at H
 clear h;obtain ⟨t389,A3,H⟩:=ob_ H;obtain ⟨t390,A4,H⟩:=ob_ H;by_cases c5:t389=true
 ·subst c5;rw [if_pos rfl] at H;by_cases c6:t390=true
  ·subst c6;rw [if_pos rfl] at H;exact ue19_0
  ·replace c6:=Bool.eq_false_iff.mpr c6;subst c6;rw [if_neg (show ¬(false=true) by decide)] at H;exact ue19_0
 ·replace c5:=Bool.eq_false_iff.mpr c5;subst c5;rw [if_neg (show ¬(false=true) by decide)] at H;by_cases c7:t390=true
  ·subst c7;rw [if_pos rfl] at H;exact ue19_0
  ·replace c7:=Bool.eq_false_iff.mpr c7;subst c7;rw [if_neg (show ¬(false=true) by decide)] at H;by_cases c8:a0<a1
   ·rw [if_pos c8] at H;have c8b0:=ct_ c8;clear c8;exact ue19_0
   ·rw [if_neg c8] at H;have c8b0:=cf_ c8;clear c8;by_cases c9:a0>a1
    ·rw [if_pos c9] at H;have c9b0:=ct_ c9;clear c9;exact ue19_0
    ·rw [if_neg c9] at H;have c9b0:=cf_ c9;clear c9;exact ue19_0
def slices_Compare_int_int.l0:Nat→List Int→List Int→List Int→Int→Int→Option (Int)
 | 0,_,_,_,_,_=>none
 | k+1,x0,x1,x9,x10,x11=>if x11<x10 then (if 0≤x11 then (if x11<(x9.length:Int) then (if x11≥(x1.length:Int) then (some 1) else (if x11<(x1.length:Int) then ((cmp_Compare_int.f (rd x9 x11) (rd x1 x11)).bind fun t393=>(if t393=0 then (slices_Compare_int_int.l0 k x0 x1 x9 x10 (wrap64 (x11+1))) else (some t393))) else (none))) else (none)) else (none)) else (if (x0.length:Int)<(x1.length:Int) then (some (-1)) else (some 0))
def slices_Compare_int_int.f (k:Nat) (l0:List Int) (l1:List Int):Option (Int):=slices_Compare_int_int.l0 k l0 l1 l0 (l0.length:Int) 0
theorem slices_Compare_int_int.mono_l:∀k,(∀y0 y1 y2 y3 y4,LeO (slices_Compare_int_int.l0 k y0 y1 y2 y3 y4) (slices_Compare_int_int.l0 (k+1) y0 y1 y2 y3 y4))
 | 0=>fun _ _ _ _ _ r h=>by simp [slices_Compare_int_int.l0] at h
 | k+1=>by
  have ih0:=slices_Compare_int_int.mono_l k
  ·intro y0 y1 y2 y3 y4;unfold slices_Compare_int_int.l0
   repeat' with_reducible first|apply ih0|apply LeO.refl|apply LeO.none|refine LeO.ite ?_ ?_|refine LeO.bind ?_ (fun _=>?_)
theorem slices_Compare_int_int.mono:∀a0 a1 k,LeO (slices_Compare_int_int.f k a0 a1) (slices_Compare_int_int.f (k+1) a0 a1):=by
 intro a0 a1 k;have ih0:=slices_Compare_int_int.mono_l k;unfold slices_Compare_int_int.f
 repeat' with_reducible first|apply ih0|apply LeO.refl|apply LeO.none|refine LeO.ite ?_ ?_|refine LeO.bind ?_ (fun _=>?_)
theorem ue19_1 {p:Prop} (h:p:=by
 go_ret;exact ⟨by first|rfl|(simp;done)|(simp [*];done),by repeat (first|exact Drawn0.refl _|apply Drawn0.step)⟩):p:=h
set_option maxHeartbeats 8000000 in
set_option maxRecDepth 100000 in
theorem slices_Compare_int_int.calls (k:Nat) (A0:Option Addr) (c0:Nat) (l0:List Int) (A1:Option Addr) (c1:Nat) (l1:List Int) (r:Int) (w:World) (hr0:Kd.C (Kd.int .i64) w A0 l0.length l0) (hc0:l0.length≤c0) (hr1:Kd.C (Kd.int .i64) w A1 l1.length l1) (hc1:l1.length≤c1) (h:slices_Compare_int_int.f k l0 l1=some r):
  Calls Tryz.prog 56 #[.slice A0 l0.length c0,.slice A1 l1.length c1] w fun e w'=>e=.returned (.int .i64 r)∧Drawn0 w w':=by
 have HR0:=a_ hr0;have HC0:=a_ hc0;clear hr0 hc0;have HR1:=a_ hr1;have HC1:=a_ hc1;clear hr1 hc1;have H:(slices_Compare_int_int.l0 k l0 l1 l0 (l0.length:Int) 0)=some r:=h
 clear h;have H':=a_ H;clear H;go_enter Tryz.func56,Tryz.ntmps56;go_wp2;go_loopg [11] k (fun kq v11 w'=>∃(x11_1:Int),v11=.int .i64 x11_1∧Aside0 (slices_Compare_int_int.l0 kq l0 l1 l0 (l0.length:Int) x11_1=some r)∧Aside0 (kq≤k)∧Drawn0 w w')
 case atStart=>exact ⟨(0),mq_,H',⟨Nat.le_refl _⟩,by repeat (first|exact Drawn0.refl _|apply Drawn0.step)⟩
 clear H';obtain ⟨x11_1,rfl,HA,HK1,⟨m1,rfl⟩⟩:=hrel;obtain _|k1:=gk
 ·exact absurd HA.out (by simp [slices_Compare_int_int.l0])
 have H:=HA.out;clear HA;simp only [slices_Compare_int_int.l0] at H;by_cases c3:x11_1<(l0.length:Int)
 ·rw [if_pos c3] at H;have c3b0:=ct_ c3;clear c3;by_cases c4:0≤x11_1
  case neg=>
   rw [if_neg c4] at H;cases H
  rw [if_pos c4] at H;have c4b0:=ct_ c4;clear c4;by_cases c5:x11_1<(l0.length:Int)
  case neg=>
   rw [if_neg c5] at H;cases H
  rw [if_pos c5] at H;have c5b0:=ct_ c5;clear c5;by_cases c6:x11_1≥(l1.length:Int)
  ·rw [if_pos c6] at H;have c6b0:=ct_ c6;clear c6;obtain rfl:=oi_ H;have p391:0≤(x11_1:Int):=md_
   have q391:x11_1<(l0.length:Int):=md_
   obtain ⟨ad391,e391,hx391_0⟩:=Kd.at_int HR0.out x11_1 p391 q391;cases e391;replace p391:=eq_true p391;replace q391:=eq_true q391;go_wp2;exact ue19_1
  ·rw [if_neg c6] at H;have c6b0:=cf_ c6;clear c6;by_cases c7:x11_1<(l1.length:Int)
   case neg=>
    rw [if_neg c7] at H;cases H
   rw [if_pos c7] at H;have c7b0:=ct_ c7;clear c7;obtain ⟨t393,A8,H⟩:=ob_ H;by_cases c9:t393=0
   ·rw [if_pos c9] at H;obtain ⟨c9b0,c9b1⟩:=bq_ c9;clear c9;have H':=a_ H;clear H;have p391:0≤(x11_1:Int):=md_
    have q391:x11_1<(l0.length:Int):=md_
    obtain ⟨ad391,e391,hx391_0⟩:=Kd.at_int HR0.out x11_1 p391 q391;cases e391;replace p391:=eq_true p391;replace q391:=eq_true q391;have p392:0≤(x11_1:Int):=md_
    have q392:x11_1<(l1.length:Int):=md_
    obtain ⟨ad392,e392,hx392_0⟩:=Kd.at_int HR1.out x11_1 p392 q392;cases e392;replace p392:=eq_true p392;replace q392:=eq_true q392;go_wp2_with (first|((with_reducible refine gate_callee (f:=79) rfl ?_);refine goesL_ (some 26) rfl rfl Tryz.func79 (by kernel_rfl) rfl #[.int .i64 (rd l0 x11_1),.int .i64 (rd l1 x11_1)] rfl mw_ ?_;(with_reducible refine (cmp_Compare_int.calls (rd l0 x11_1) (rd l1 x11_1) t393 _ A8.out).mono ?_);rintro e w' ⟨rfl,⟨nd,rfl⟩⟩;refine ⟨_,rfl,?_⟩));go_roundg k1
    case measure=>
     have:=HK1.out
     omega
    case rel=>exact ⟨(wrap64 (x11_1+1)),mq_,H',⟨by have:=HK1.out;omega⟩,by repeat (first|exact Drawn0.refl _|apply Drawn0.step)⟩
   ·rw [if_neg c9] at H;obtain ⟨c9b0,c9b1⟩:=bn_ c9;obtain rfl:=oi_ H;have p391:0≤(x11_1:Int):=md_
    have q391:x11_1<(l0.length:Int):=md_
    obtain ⟨ad391,e391,hx391_0⟩:=Kd.at_int HR0.out x11_1 p391 q391;cases e391;replace p391:=eq_true p391;replace q391:=eq_true q391;have p392:0≤(x11_1:Int):=md_
    have q392:x11_1<(l1.length:Int):=md_
    obtain ⟨ad392,e392,hx392_0⟩:=Kd.at_int HR1.out x11_1 p392 q392;cases e392;replace p392:=eq_true p392;replace q392:=eq_true q392;go_wp2_with (first|((with_reducible refine gate_callee (f:=79) rfl ?_);refine goesL_ (some 26) rfl rfl Tryz.func79 (by kernel_rfl) rfl #[.int .i64 (rd l0 x11_1),.int .i64 (rd l1 x11_1)] rfl mw_ ?_;(with_reducible refine (cmp_Compare_int.calls (rd l0 x11_1) (rd l1 x11_1) t393 _ A8.out).mono ?_);rintro e w' ⟨rfl,⟨nd,rfl⟩⟩;refine ⟨_,rfl,?_⟩));exact ue19_1
 ·rw [if_neg c3] at H;have c3b0:=cf_ c3;clear c3;by_cases c10:(l0.length:Int)<(l1.length:Int)
  ·rw [if_pos c10] at H;have c10b0:=ct_ c10;have c10b1:decide (l0.length<l1.length)=true:=decide_eq_true (Int.ofNat_lt.mp c10)
   clear c10;obtain rfl:=oi_ H;go_wp2;exact ue19_1
  ·rw [if_neg c10] at H;have c10b0:=cf_ c10;have c10b1:decide (l0.length<l1.length)=false:=decide_eq_false (fun h=>c10 (Int.ofNat_lt.mpr h))
   clear c10;obtain rfl:=oi_ H;go_wp2;exact ue19_1
def cmp_Less_int.f (a0:Int) (a1:Int):Option (Bool):=(cmp_isNaN_int.f a0).bind fun t394=>(if t394=true then ((cmp_isNaN_int.f a1).bind fun t395=>(if t395=true then (some (decide (a0<a1))) else (some true))) else (some (decide (a0<a1))))
end Go.Proofs.YtejjlkbbnhpbdaaGreat.P
namespace Go.Proofs.YtejjlkbbnhpbdaaGreat.P
open Go.Proofs.YtejjlkbbnhpbdaaGreatX
open Go.RowKit Go.Proofs.YtejjlkbbnhpbdaaGreatW.PrintWords Go.Proofs.YtejjlkbbnhpbdaaGreatW.PrintLast Go.Proofs.YtejjlkbbnhpbdaaGreatW.PrintMore
attribute [local go_sem] max2_int min2_int max_two min_two max_three min_three max_four min_four
set_option linter.unusedVariables false
set_option linter.unusedSimpArgs false
def recencyL (l:List Int):List Int:=if 1000<l.length then [] else (l.mergeSort fun x y=>decide (x≤y)).reverse
def impl_Recency.f (l0:List Int):Option (List Int):=some (recencyL l0)
theorem spot_none {w:World} {a:Addr} {v:Value} (h:w.cell? a=some v):a=⟨a.block,a.off,none⟩:=by
 cases a with
 | mk b o s=>
  cases s with
  | none=>rfl
  | some k=>
   simp [World.cell?] at h
   split at h<;>cases h
open Go.Sort Go.Lib in
theorem own_sorted {w:World} {base:Nat} {v:Value} {zs:List Int} (h:w.ownsRow base 3 1 v zs.length (zs.map (Value.int .i64))) (hv:v≠.slice none 0 0) (hz:zs.length<4611686018427387904):
  ∃g cap,v=.slice (some ⟨g,0,none⟩) zs.length cap∧base≤g∧g<w.heap.size∧
   Calls Tryz.prog 80 #[v] w fun e w'=>e=.returned (.tuple #[])∧w'.ownsRow base 3 1 v zs.length ((zs.mergeSort fun x y=>decide (x≤y)).map (Value.int .i64))∧w.grownBy w' (some g):=by
 obtain ⟨g,cap,rfl,hb,hlt,hn,hm,hl,hH⟩:=holds_of_ownsRow h hv;refine ⟨g,cap,rfl,hb,hlt,?_⟩;refine (Tryz.slices_Sort_int g 0 cap zs w hH hlt hz).mono ?_;rintro e w' ⟨rfl,n,os,rfl⟩;refine ⟨rfl,?_,grownBy_sortedI _⟩;rcases h.2 with ⟨h0,_⟩|⟨g',cap',cur,hv',hg',hh,h1,h2,h3,h4⟩
 ·cases h0
 ·cases hv'
  exact ownsRow_sortedI (by simp) hb hh h1 h2 h3
open Go.Proofs.YtejjlkbbnhpbdaaGreatX Go.Sort Go.Lib in
set_option maxHeartbeats 4000000 in
set_option maxRecDepth 100000 in
theorem impl_Recency.calls (A0:Option Addr) (c0:Nat) (l0:List Int) (r:List Int) (w:World) (hr0:Kd.C (Kd.int .i64) w A0 l0.length l0) (hc0:l0.length≤c0) (h:impl_Recency.f l0=some r):
  Calls Tryz.prog 57 #[.slice A0 l0.length c0] w fun e w'=>∃v0_:Value,e=.returned (v0_)∧Kd.R (Kd.int .i64) 3 w' w.heap.size (fun _=>True) v0_ r∧Below w.heap.size w w':=by
 have h:=Option.some.inj h;subst h;have HB:=a_ (Below.refl w.heap.size w);by_cases h1:1000<l0.length
 ·have q1:decide (1000<(l0.length:Int))=true:=decide_eq_true (by omega)
  rw [show recencyL l0=[] by unfold recencyL;rw [if_pos h1]];clear h1 hr0 hc0;go_enter Tryz.func57,Tryz.ntmps57;go_wp2;go_ret;exact ⟨_,rfl,Kd.R_nil _ _ _ _ _,HB.out⟩
 have q1:decide (1000<(l0.length:Int))=false:=decide_eq_false (by omega)
 have hv:recencyL l0=(l0.mergeSort fun x y=>decide (x≤y)).reverse:=by unfold recencyL;rw [if_neg h1]
 have HV:=a_ hv;have hl:l0.length≤1000:=by omega
 have hcl:Calls Tryz.prog 37 #[.slice A0 l0.length c0] w fun e w'=>∃v',e=.returned v'∧w'.ownsRow w.heap.size 3 1 v' l0.length (l0.map (Value.int .i64))∧(v'=.slice none 0 0→l0=[])∧Below w.heap.size w w':=by
  cases l0 with
  | nil=>
   cases A0 with
   | none=>
    refine (Tryz.slices_Clone_int_nil 0 c0 w).mono ?_;rintro e w' ⟨rfl,rfl⟩;exact ⟨_,rfl,own_nil _ _ _ _,fun _=>rfl,Below.refl _ _⟩
   | some a=>
    refine (Tryz.slices_Clone_int_zero a c0 w).mono ?_;rintro e w' ⟨v',rfl,ho,hn,hb⟩;exact ⟨_,rfl,ho,fun _=>rfl,hb⟩
  | cons x xs=>
   obtain ⟨ad,c,e0,hs,hk,hcell⟩:=Kd.C_get hr0 (0:Int) 0 (by omega) (by simp);obtain ⟨ad',e1,hall⟩:=hr0.2.2 (by simp);rw [e0] at e1;have e1:=Option.some.inj e1;subst e1
   have hat:∀j,j<(x::xs).length→w.cell? (ad.add j)=some (.int .i64 ((x::xs).getD j 0)):=by
    intro j hj;obtain ⟨c',hs',hk',hc'⟩:=hall j _ (List.getElem?_eq_getElem hj);have hk'':c'=[Value.int .i64 (x::xs)[j]]:=hk'
    subst hk'';have:=hc' 0 _ rfl
    rw [Go.Proofs.YtejjlkbbnhpbdaaGreatX.getD_lt (0:Int) hj];simpa [Kd.int,Kd.scalar] using this
   have h0:=hat 0 (by simp)
   have hsp:ad=⟨ad.block,ad.off,none⟩:=by
    refine spot_none (w:=w) (v:=.int .i64 ((x::xs).getD 0 0)) ?_;simpa [Addr.add] using h0
   rw [e0,hsp];rw [hsp] at hat;refine (Tryz.slices_Clone_int ad.block ad.off (x::xs).length c0 (x::xs) w (Nat.le_refl _) (by omega) (fun j hj=>?_)).mono ?_
   ·have:=hat j hj
    rw [Addr.add_lit] at this;exact this
   ·rintro e w' ⟨v',rfl,ho,hn,hb⟩;rw [List.take_length] at ho;exact ⟨_,rfl,ho,fun h=>absurd h hn,hb⟩
 have HCL:=a_ hcl;have HL:=a_ hl;clear hcl hr0 hc0 h1 hv hl;go_enter Tryz.func57,Tryz.ntmps57;go_wp2_with (go_at_call 37;refine HCL.out.mono ?_;rintro e w1 ⟨v',rfl,ho,hn,hb⟩);by_cases hnil:v'=.slice none 0 0
 ·have h0:=hn hnil;subst h0;subst hnil;refine (Tryz.slices_Sort_int_none none 0 w1).mono ?_;rintro e w2 ⟨rfl,rfl⟩;go_wp2_with fail;refine (Tryz.slices_Reverse_int_empty none 0 _).mono ?_;rintro e w3 ⟨rfl,rfl⟩;go_wp2;go_ret;exact ⟨_,rfl,by rw [HV.out,List.mergeSort_nil,List.reverse_nil];exact Kd.R_nil _ _ _ _ _,hb⟩
 ·obtain ⟨g,cap,rfl,hbg,hlt,hsort⟩:=own_sorted ho hnil (by have:=HL.out;omega);refine hsort.mono ?_;rintro e w2 ⟨rfl,ho2,hg2⟩;have hb2:Below w.heap.size w w2:=pw_below_grown hb _ hb.size hg2 (fun k hk=>by cases hk;exact hbg)
  have HS2:=a_ ho2;obtain ⟨g',cap',e1,_,_,_,_,hlen,hH⟩:=holds_of_ownsRow ho2 hnil;have HB2:=a_ hb2;have HBG:=a_ hbg;injection e1 with e2 _ e4
  injection e2 with e2
  injection e2 with e2 _ _
  subst e2;subst e4;have hrev:=Tryz.slices_Reverse_int g 0 cap (l0.mergeSort fun x y=>decide (x≤y)) w2 hH (by rw [hlen];have:=HL.out;omega);rw [hlen] at hrev;have HR:=a_ hrev;have HN:=a_ hlen;clear hrev hH hb2 hbg ho ho2 hn hnil hsort hlen hb hg2 hlt;go_wp2_with fail;refine HR.out.mono ?_;rintro e w3 ⟨rfl,n,rfl⟩;go_wp2;go_ret;refine ⟨_,rfl,?_,below_putRow HB2.out HBG.out⟩;have ho3:=ownsRow_putRow (q:=n) (ys:=(l0.mergeSort fun x y=>decide (x≤y)).reverse) (k:=l0.length) HS2.out (by rw [List.length_reverse];exact HN.out) (Nat.le_refl _);rw [HV.out];have hl3:(l0.mergeSort fun x y=>decide (x≤y)).reverse.length=l0.length:=by rw [List.length_reverse];exact HN.out
  rw [List.take_of_length_le (by omega)] at ho3;refine Kd.R_of_own (enc:=Value.int .i64) ?_ (fun _ _=>trivial);rw [hl3];exact ho3
end Go.Proofs.YtejjlkbbnhpbdaaGreat.P
namespace Go.Proofs.YtejjlkbbnhpbdaaGreat.P
open Go.Proofs.YtejjlkbbnhpbdaaGreatX
open Go.RowKit Go.Proofs.YtejjlkbbnhpbdaaGreatW.PrintWords Go.Proofs.YtejjlkbbnhpbdaaGreatW.PrintLast Go.Proofs.YtejjlkbbnhpbdaaGreatW.PrintMore
attribute [local go_sem] max2_int min2_int max_two min_two max_three min_three max_four min_four
set_option linter.unusedVariables false
set_option linter.unusedSimpArgs false
def impl_cmpInst.f (k:Nat) (a0_0:Int) (l0_1:List Int) (a1_0:Int) (l1_1:List Int):Option (Int):=if a0_0=a1_0 then ((slices_Compare_int_int.f k l0_1 l1_1).bind fun t520=>(some t520)) else (some (wrap64 (a0_0-a1_0)))
theorem impl_cmpInst.mono:∀a0 a1 a2 a3 k,LeO (impl_cmpInst.f k a0 a1 a2 a3) (impl_cmpInst.f (k+1) a0 a1 a2 a3):=by
 intro a0 a1 a2 a3 k;unfold impl_cmpInst.f
 repeat' with_reducible first|apply slices_Compare_int_int.mono|apply LeO.refl|apply LeO.none|refine LeO.ite ?_ ?_|refine LeO.bind ?_ (fun _=>?_)
theorem uff2_0 {p:Prop} (h:p:=by
 obtain rfl:=oi_ H;go_enter Tryz.func58,Tryz.ntmps58;go_wp2_with (first|((with_reducible refine gate_dst (N:=2) rfl ?_);refine bh_ 2 #[.int .i64 a0_0,.slice A0_1 l0_1.length c0_1] 31 HB ?_;intro gb518 hg wx BK518 GE518 hb;replace HB:=ms_ HB hb;clear hb hg)|((with_reducible refine gate_dst (N:=3) rfl ?_);refine bh_ 3 #[.int .i64 a1_0,.slice A1_1 l1_1.length c1_1] 31 HB ?_;intro gb519 hg wx BK519 GE519 hb;obtain ⟨NB518_519,NB519_518⟩:=mn_ BK518 hg;replace BK518:=mk_ BK518 hb;replace HB:=ms_ HB hb;clear hb hg;have nNB518_519:=NB518_519.out;have nNB519_518:=NB519_518.out;replace hz518:=cz2 BK518;replace hz519:=cz2 BK519)|((with_reducible refine gate_callee (f:=56) rfl ?_);refine goesL_ (some 19) rfl rfl Tryz.func56 (by kernel_rfl) rfl #[.slice A0_1 l0_1.length c0_1,.slice A1_1 l1_1.length c1_1] rfl mw_ ?_;(with_reducible refine (slices_Compare_int_int.calls k _ _ l0_1 _ _ l1_1 t520 _ ?side1 HC0_1.out ?side3 HC1_1.out A4.out).mono ?_);(case side1=>exact mt_ HR0_1 HB);(case side3=>exact mt_ HR1_1 HB);rintro e w' ⟨rfl,⟨nd,rfl⟩⟩;refine ⟨_,rfl,?_⟩));go_ret;exact ⟨me_,mb_ HB⟩):p:=h
set_option maxHeartbeats 8000000 in
set_option maxRecDepth 100000 in
theorem impl_cmpInst.calls (k:Nat) (a0_0:Int) (A0_1:Option Addr) (c0_1:Nat) (l0_1:List Int) (a1_0:Int) (A1_1:Option Addr) (c1_1:Nat) (l1_1:List Int) (r:Int) (w:World) (hr0_1:Kd.C (Kd.int .i64) w A0_1 l0_1.length l0_1) (hc0_1:l0_1.length≤c0_1) (hr1_1:Kd.C (Kd.int .i64) w A1_1 l1_1.length l1_1) (hc1_1:l1_1.length≤c1_1) (h:impl_cmpInst.f k a0_0 l0_1 a1_0 l1_1=some r):
  Calls Tryz.prog 58 #[.agg #[.int .i64 a0_0,.slice A0_1 l0_1.length c0_1],.agg #[.int .i64 a1_0,.slice A1_1 l1_1.length c1_1]] w fun e w'=>e=.returned (.int .i64 r)∧Below w.heap.size w w':=by
 have hu31:=Tryz.underlying31;have HR0_1:=a_ hr0_1;have HC0_1:=a_ hc0_1;clear hr0_1 hc0_1;have HR1_1:=a_ hr1_1;have HC1_1:=a_ hc1_1;clear hr1_1 hc1_1;have HB:=a_ (Below.refl w.heap.size w);have H:=h;unfold impl_cmpInst.f at H
 clear h;by_cases c3:a0_0=a1_0
 ·rw [if_pos c3] at H;obtain ⟨c3b0,c3b1⟩:=bq_ c3;clear c3;obtain ⟨t520,A4,H⟩:=ob_ H;exact uff2_0
 ·rw [if_neg c3] at H;obtain ⟨c3b0,c3b1⟩:=bn_ c3;exact uff2_0
end Go.Proofs.YtejjlkbbnhpbdaaGreat.P
namespace Go.Proofs.YtejjlkbbnhpbdaaGreat.P
open Go.Proofs.YtejjlkbbnhpbdaaGreatX
open Go.RowKit Go.Proofs.YtejjlkbbnhpbdaaGreatW.PrintWords Go.Proofs.YtejjlkbbnhpbdaaGreatW.PrintLast Go.Proofs.YtejjlkbbnhpbdaaGreatW.PrintMore
attribute [local go_sem] max2_int min2_int max_two min_two max_three min_three max_four min_four
set_option linter.unusedVariables false
set_option linter.unusedSimpArgs false
def impl_before.f (k:Nat) (l0:List (S58)) (a1_0:Int) (l1_1:List Int) (a2_0:Int) (l2_1:List Int):Option (Bool):=if 0≤a1_0 then (if a1_0<(l0.length:Int) then (if 0≤a2_0 then (if a2_0<(l0.length:Int) then (if ((rd_T58 l0 a1_0).f1)=((rd_T58 l0 a2_0).f1) then ((impl_Recency.f l1_1).bind fun t525=>((impl_Recency.f l2_1).bind fun t528=>((slices_Compare_int_int.f k t525 t528).bind fun t531=>(if t531=0 then ((impl_cmpInst.f k a1_0 l1_1 a2_0 l2_1).bind fun t532=>(some (decide (t532<0)))) else (some (decide (t531>0))))))) else (some (decide (((rd_T58 l0 a1_0).f1)>((rd_T58 l0 a2_0).f1))))) else (none)) else (none)) else (none)) else (none)
theorem impl_before.mono:∀a0 a1 a2 a3 a4 k,LeO (impl_before.f k a0 a1 a2 a3 a4) (impl_before.f (k+1) a0 a1 a2 a3 a4):=by
 intro a0 a1 a2 a3 a4 k;unfold impl_before.f
 repeat' with_reducible first|apply impl_cmpInst.mono|apply slices_Compare_int_int.mono|apply LeO.refl|apply LeO.none|refine LeO.ite ?_ ?_|refine LeO.bind ?_ (fun _=>?_)
def impl_before.T1:Bool×List (List Nat×List Nat):=(true,[([],[]),([],[]),([1],[1]),([0,2],[0,2]),([3],[3]),([4],[4]),([],[]),([],[]),([7],[7]),([6,8],[6,8]),([9],[9]),([10],[10]),([5,0,1,2,3,4,5],[5]),([11,12,0,1,2,3,4,5,6,7,8,9,10,11,12],[11])])
def impl_before.B1:List Nat:=[0,0,2,7,15,31,0,0,128,448,960,1984,63,8191]
theorem impl_before.tab1:rtab .any (opsOf Tryz.f30 1)=impl_before.T1:=by kernel_rfl
theorem impl_before.bits1:waitsOk impl_before.T1.2 impl_before.B1=true:=by kernel_rfl
def impl_before.T4:Bool×List (List Nat×List Nat):=(true,[([],[]),([0],[0]),([1],[1]),([],[]),([3],[3]),([4,2],[4]),([2,5,5],[2,5]),([6,6,0,1,2,3,4,5,6],[6])])
def impl_before.B4:List Nat:=[0,1,3,0,8,31,63,127]
theorem impl_before.tab4:rtab .any (opsOf Tryz.f30 4)=impl_before.T4:=by kernel_rfl
theorem impl_before.bits4:waitsOk impl_before.T4.2 impl_before.B4=true:=by kernel_rfl
abbrev ba89_0:Array Bool:=#[f_,f_,f_,f_,f_,f_,f_,f_,f_,f_,f_,f_,f_,f_]
abbrev ba89_1:Array Bool:=#[t_,f_,f_,f_,f_,f_,f_,f_,f_,f_,f_,f_,f_,f_]
abbrev ba89_2:Array Bool:=#[t_,t_,f_,f_,f_,f_,f_,f_,f_,f_,f_,f_,f_,f_]
abbrev ba89_3:Array Bool:=#[t_,t_,f_,f_,f_,f_,t_,f_,f_,f_,f_,f_,f_,f_]
abbrev ba89_4:Array Bool:=#[t_,t_,f_,f_,f_,f_,t_,t_,f_,f_,f_,f_,f_,f_]
abbrev ba89_5:Array Bool:=#[t_,t_,t_,f_,f_,f_,t_,t_,f_,f_,f_,f_,f_,f_]
abbrev ba89_6:Array Bool:=#[t_,t_,t_,t_,f_,f_,t_,t_,f_,f_,f_,f_,f_,f_]
abbrev ba89_7:Array Bool:=#[t_,t_,t_,t_,t_,f_,t_,t_,f_,f_,f_,f_,f_,f_]
abbrev ba89_8:Array Bool:=#[t_,t_,t_,t_,t_,t_,t_,t_,f_,f_,f_,f_,f_,f_]
abbrev ba89_9:Array Bool:=#[t_,t_,t_,t_,t_,t_,t_,t_,f_,f_,f_,f_,t_,f_]
abbrev ba89_10:Array Bool:=#[t_,t_,t_,t_,t_,t_,t_,t_,t_,f_,f_,f_,t_,f_]
abbrev ba89_11:Array Bool:=#[t_,t_,t_,t_,t_,t_,t_,t_,t_,t_,f_,f_,t_,f_]
abbrev ba89_12:Array Bool:=#[t_,t_,t_,t_,t_,t_,t_,t_,t_,t_,t_,f_,t_,f_]
abbrev ba89_13:Array Bool:=#[t_,t_,t_,t_,t_,t_,t_,t_,t_,t_,t_,t_,t_,f_]
abbrev ba89_14:Array Bool:=#[t_,t_,t_,t_,t_,t_,t_,t_,t_,t_,t_,t_,t_,t_]
abbrev ba89_15:Array Bool:=#[f_,f_,f_,f_,f_,f_,f_,f_]
abbrev ba89_16:Array Bool:=#[t_,f_,f_,f_,f_,f_,f_,f_]
abbrev ba89_17:Array Bool:=#[t_,f_,f_,t_,f_,f_,f_,f_]
abbrev ba89_18:Array Bool:=#[t_,t_,f_,t_,f_,f_,f_,f_]
abbrev ba89_19:Array Bool:=#[t_,t_,f_,t_,t_,f_,f_,f_]
abbrev ba89_20:Array Bool:=#[t_,t_,t_,t_,t_,f_,f_,f_]
abbrev ba89_21:Array Bool:=#[t_,t_,t_,t_,t_,t_,f_,f_]
abbrev ba89_22:Array Bool:=#[t_,t_,t_,t_,t_,t_,t_,f_]
abbrev ba89_23:Array Bool:=#[t_,t_,t_,t_,t_,t_,t_,t_]
set_option maxHeartbeats 8000000 in
set_option maxRecDepth 100000 in
theorem impl_before.calls (k:Nat) (A0:Option Addr) (c0:Nat) (l0:List (S58)) (a1_0:Int) (A1_1:Option Addr) (c1_1:Nat) (l1_1:List Int) (a2_0:Int) (A2_1:Option Addr) (c2_1:Nat) (l2_1:List Int) (r:Bool) (w:World) (hr0:Kd.C k58 w A0 l0.length l0) (hc0:l0.length≤c0) (hr1_1:Kd.C (Kd.int .i64) w A1_1 l1_1.length l1_1) (hc1_1:l1_1.length≤c1_1) (hr2_1:Kd.C (Kd.int .i64) w A2_1 l2_1.length l2_1) (hc2_1:l2_1.length≤c2_1) (h:impl_before.f k l0 a1_0 l1_1 a2_0 l2_1=some r):
  Calls Tryz.prog 30 #[.slice A0 l0.length c0,.agg #[.int .i64 a1_0,.slice A1_1 l1_1.length c1_1],.agg #[.int .i64 a2_0,.slice A2_1 l2_1.length c2_1]] w fun e w'=>e=.returned (.bool r)∧Below w.heap.size w w':=by
 have hu31:=Tryz.underlying31;have HR0:=a_ hr0;have HC0:=a_ hc0;clear hr0 hc0;have HR1_1:=a_ hr1_1;have HC1_1:=a_ hc1_1;clear hr1_1 hc1_1;have HR2_1:=a_ hr2_1;have HC2_1:=a_ hc2_1;clear hr2_1 hc2_1;have HB:=a_ (Below.refl w.heap.size w);have H:=h;unfold impl_before.f at H
 clear h;by_cases c4:0≤a1_0
 case neg=>
  rw [if_neg c4] at H;cases H
 rw [if_pos c4] at H;have c4b0:=ct_ c4;clear c4;by_cases c5:a1_0<(l0.length:Int)
 case neg=>
  rw [if_neg c5] at H;cases H
 rw [if_pos c5] at H;have c5b0:=ct_ c5;clear c5;by_cases c6:0≤a2_0
 case neg=>
  rw [if_neg c6] at H;cases H
 rw [if_pos c6] at H;have c6b0:=ct_ c6;clear c6;by_cases c7:a2_0<(l0.length:Int)
 case neg=>
  rw [if_neg c7] at H;cases H
 rw [if_pos c7] at H;have c7b0:=ct_ c7;clear c7;have HD:=a_ H;clear H;go_enter Tryz.func30,Tryz.ntmps30;try go_wp2_with (first|((with_reducible refine gate_dst (N:=4) rfl ?_);refine bh_ 4 #[.int .i64 a1_0,.slice A1_1 l1_1.length c1_1] 31 HB ?_;intro gb521 hg wq0 BK521 GE521 hb;replace HB:=ms_ HB hb;clear hb hg)|((with_reducible refine gate_dst (N:=5) rfl ?_);refine bh_ 5 #[.int .i64 a2_0,.slice A2_1 l2_1.length c2_1] 31 HB ?_;intro gb522 hg wq1 BK522 GE522 hb;obtain ⟨NB521_522,NB522_521⟩:=mn_ BK521 hg;replace BK521:=mk_ BK521 hb;replace HB:=ms_ HB hb;clear hb hg))
 replace BK521:=a_ (blk_drew BK521.out);replace BK522:=a_ (blk_drew BK522.out);replace HB:=a_ (below_drew1 HB.out);have p523:0≤(a1_0:Int):=md_
 have q523:a1_0<(l0.length:Int):=md_
 obtain ⟨ad523,A523_2,c523_2,A523_3,c523_3,A523_4,c523_4,e523,hx523_0,hx523_1,hx523_2,hx523_3,hx523_4,hl523_2,hi523_2,hl523_3,hi523_3,hl523_4,hi523_4⟩:=at_T58 HR0.out a1_0 p523 q523;have hw523_4:=hx523_4;have hw523_3:=hx523_3;have hw523_2:=hx523_2;have hw523_1:=hx523_1;have hw523_0:=hx523_0;cases e523;replace hx523_0:=mx_ HB hx523_0;replace hx523_1:=mx_ HB hx523_1;replace hx523_2:=mx_ HB hx523_2;replace hx523_3:=mx_ HB hx523_3;replace hx523_4:=mx_ HB hx523_4;have HR523_2:=a_ hi523_2;have HC523_2:=a_ hl523_2;clear hi523_2 hl523_2;have HR523_3:=a_ hi523_3;have HC523_3:=a_ hl523_3;clear hi523_3 hl523_3;have HR523_4:=a_ hi523_4;have HC523_4:=a_ hl523_4;clear hi523_4 hl523_4;replace p523:=eq_true p523;replace q523:=eq_true q523;have p524:0≤(a2_0:Int):=md_
 have q524:a2_0<(l0.length:Int):=md_
 obtain ⟨ad524,A524_2,c524_2,A524_3,c524_3,A524_4,c524_4,e524,hx524_0,hx524_1,hx524_2,hx524_3,hx524_4,hl524_2,hi524_2,hl524_3,hi524_3,hl524_4,hi524_4⟩:=at_T58 HR0.out a2_0 p524 q524;have hw524_4:=hx524_4;have hw524_3:=hx524_3;have hw524_2:=hx524_2;have hw524_1:=hx524_1;have hw524_0:=hx524_0;obtain rfl:ad523=ad524:=(by injection e524);replace hx524_0:=mx_ HB hx524_0;replace hx524_1:=mx_ HB hx524_1;replace hx524_2:=mx_ HB hx524_2;replace hx524_3:=mx_ HB hx524_3;replace hx524_4:=mx_ HB hx524_4;have HR524_2:=a_ hi524_2;have HC524_2:=a_ hl524_2;clear hi524_2 hl524_2;have HR524_3:=a_ hi524_3;have HC524_3:=a_ hl524_3;clear hi524_3 hl524_3;have HR524_4:=a_ hi524_4;have HC524_4:=a_ hl524_4;clear hi524_4 hl524_4;replace p524:=eq_true p524;replace q524:=eq_true q524;refine start_ (n:=14) (S:=fun w'=>w'.cell? ⟨gb521,0,none⟩=some (.int .i64 a1_0)∧w'.cell? ⟨gb521,1,none⟩=some (.slice A1_1 l1_1.length c1_1)∧w'.cell? ⟨gb522,0,none⟩=some (.int .i64 a2_0)∧w'.cell? ⟨gb522,1,none⟩=some (.slice A2_1 l2_1.length c2_1)∧w'.cell? (ad523.add ((a1_0).toNat*5))=some (.string ((rd_T58 l0 a1_0).f0))∧w'.cell? ⟨(ad523.add ((a1_0).toNat*5)).block,(ad523.add ((a1_0).toNat*5)).off+1,none⟩=some (.int .i64 ((rd_T58 l0 a1_0).f1))∧w'.cell? ⟨(ad523.add ((a1_0).toNat*5)).block,(ad523.add ((a1_0).toNat*5)).off+2,none⟩=some (.slice A523_2 ((rd_T58 l0 a1_0).f2).length c523_2)∧w'.cell? ⟨(ad523.add ((a1_0).toNat*5)).block,(ad523.add ((a1_0).toNat*5)).off+3,none⟩=some (.slice A523_3 ((rd_T58 l0 a1_0).f3).length c523_3)∧w'.cell? ⟨(ad523.add ((a1_0).toNat*5)).block,(ad523.add ((a1_0).toNat*5)).off+4,none⟩=some (.slice A523_4 ((rd_T58 l0 a1_0).f4).length c523_4)∧w'.cell? (ad523.add ((a2_0).toNat*5))=some (.string ((rd_T58 l0 a2_0).f0))∧w'.cell? ⟨(ad523.add ((a2_0).toNat*5)).block,(ad523.add ((a2_0).toNat*5)).off+1,none⟩=some (.int .i64 ((rd_T58 l0 a2_0).f1))∧w'.cell? ⟨(ad523.add ((a2_0).toNat*5)).block,(ad523.add ((a2_0).toNat*5)).off+2,none⟩=some (.slice A524_2 ((rd_T58 l0 a2_0).f2).length c524_2)∧w'.cell? ⟨(ad523.add ((a2_0).toNat*5)).block,(ad523.add ((a2_0).toNat*5)).off+3,none⟩=some (.slice A524_3 ((rd_T58 l0 a2_0).f3).length c524_3)∧w'.cell? ⟨(ad523.add ((a2_0).toNat*5)).block,(ad523.add ((a2_0).toNat*5)).off+4,none⟩=some (.slice A524_4 ((rd_T58 l0 a2_0).f4).length c524_4)) (ds:=[]) ba89_0 (by kernel_rfl) rfl rfl ⟨bk_ BK521 0,bk_ BK521 1,bk_ BK522 0,bk_ BK522 1,(mx_ HB hw523_0),(mx_ HB hw523_1),(mx_ HB hw523_2),(mx_ HB hw523_3),(mx_ HB hw523_4),(mx_ HB hw524_0),(mx_ HB hw524_1),(mx_ HB hw524_2),(mx_ HB hw524_3),(mx_ HB hw524_4)⟩ (fun hHeld=>?_);refine with_tabW impl_before.tab1 impl_before.bits1 (fun HT_ HW_=>?_);generalize wq1.drew=wq2 at BK521 BK522 HB HR523_2 HR523_3 HR523_4 HR524_2 HR524_3 HR524_4 hx523_0 hx523_1 hx523_2 hx523_3 hx523_4 hx524_0 hx524_1 hx524_2 hx524_3 hx524_4 hHeld ⊢
 refine pu_ 0 10 ba89_1 (any_of HT_.out (by kernel_rfl)) ?_;refine pu_ 1 11 ba89_2 (any_of HT_.out (by kernel_rfl)) ?_;refine pu_ 6 16 ba89_3 (any_of HT_.out (by kernel_rfl)) ?_;refine pu_ 7 17 ba89_4 (any_of HT_.out (by kernel_rfl)) ?_;refine tk_ 2 12 ba89_5 (take_ofW HT_.out HW_.out (by kernel_rfl)) hHeld ?_;refine pu_ 3 13 ba89_6 (any_of HT_.out (by kernel_rfl)) ?_;refine pu_ 4 14 ba89_7 (any_of HT_.out (by kernel_rfl)) ?_;refine tk_ 5 15 ba89_8 (take_ofW HT_.out HW_.out (by kernel_rfl)) hHeld ?_;refine pu_ 12 7 ba89_9 (any_of HT_.out (by kernel_rfl)) ?_;refine tk_ 8 18 ba89_10 (take_ofW HT_.out HW_.out (by kernel_rfl)) hHeld ?_;refine pu_ 9 19 ba89_11 (any_of HT_.out (by kernel_rfl)) ?_;refine pu_ 10 20 ba89_12 (any_of HT_.out (by kernel_rfl)) ?_;refine tk_ 11 21 ba89_13 (take_ofW HT_.out HW_.out (by kernel_rfl)) hHeld ?_;refine pu_ 13 8 ba89_14 (any_of HT_.out (by kernel_rfl)) ?_;refine done_ (done_of HT_.out (by kernel_rfl)) ?_;have H:=HD.out;clear HD;by_cases c8:((rd_T58 l0 a1_0).f1)=((rd_T58 l0 a2_0).f1)
 ·rw [if_pos c8] at H;obtain ⟨c8b0,c8b1⟩:=bq_ c8;clear c8;obtain ⟨t525,A9,H⟩:=ob_ H;obtain ⟨t528,A10,H⟩:=ob_ H;obtain ⟨t531,A11,H⟩:=ob_ H;have HD:=a_ H;clear H;(try simp only [c8b0,c8b1,c12b0,c12b1]);try go_wp2
  replace BK521:=a_ (blk_drew BK521.out);replace BK522:=a_ (blk_drew BK522.out);replace HB:=a_ (below_drew1 HB.out);refine start_ (n:=8) (S:=fun w'=>w'.cell? ⟨gb521,0,none⟩=some (.int .i64 a1_0)∧w'.cell? ⟨gb521,1,none⟩=some (.slice A1_1 l1_1.length c1_1)∧w'.cell? ⟨gb522,0,none⟩=some (.int .i64 a2_0)∧w'.cell? ⟨gb522,1,none⟩=some (.slice A2_1 l2_1.length c2_1)) (ds:=[]) ba89_15 (by kernel_rfl) rfl rfl ⟨bk_ BK521 0,bk_ BK521 1,bk_ BK522 0,bk_ BK522 1⟩ (fun hHeld=>?_);refine with_tabW impl_before.tab4 impl_before.bits4 (fun HT_ HW_=>?_);generalize wq2.drew=wq3 at BK521 BK522 HB hHeld ⊢;refine pu_ 0 28 ba89_16 (any_of HT_.out (by kernel_rfl)) ?_;refine pu_ 3 31 ba89_17 (any_of HT_.out (by kernel_rfl)) ?_;refine tk_ 1 29 ba89_18 (take_ofW HT_.out HW_.out (by kernel_rfl)) hHeld ?_;refine tk_ 4 32 ba89_19 (take_ofW HT_.out HW_.out (by kernel_rfl)) hHeld ?_;refine one_ (i:=2) (N:=some 30) ba89_20 rfl rfl (one_of HT_.out (by kernel_rfl)) (by decide) (fun K hK=>?_);refine goes_ Tryz.func57 (by kernel_rfl) rfl #[.slice A1_1 l1_1.length c1_1] (by rfl) rfl rfl mw_ ?_;with_reducible refine (impl_Recency.calls _ _ l1_1 t525 _ ?side1 ?side2 A9.out).mono ?_
  (case side1=>exact mt_ HR1_1 HB)
  (case side2=>exact HC1_1.out)
  rintro e wq4 ⟨v526,rfl,ho0,hb⟩;refine ⟨_,rfl,?_⟩;have HO527:=a_ (Kd.R_lower ho0 (below_size (mb_ HB)));replace BK521:=mk_ BK521 hb;replace BK522:=mk_ BK522 hb;replace HB:=ms_ HB hb;(try clear hb);(try clear hb2);(try clear hk);(try clear hi);(try clear ho0);refine hK.out _ _ ⟨bk_ BK521 0,bk_ BK521 1,bk_ BK522 0,bk_ BK522 1⟩ (fun hHeld=>?_);clear hK K;refine nm_ 30 ?_;refine one_ (i:=5) (N:=some 33) ba89_21 rfl rfl (one_of HT_.out (by kernel_rfl)) (by decide) (fun K hK=>?_);refine goes_ Tryz.func57 (by kernel_rfl) rfl #[.slice A2_1 l2_1.length c2_1] (by rfl) rfl rfl mw_ ?_;with_reducible refine (impl_Recency.calls _ _ l2_1 t528 _ ?side1 ?side2 A10.out).mono ?_
  (case side1=>exact mt_ HR2_1 HB)
  (case side2=>exact HC2_1.out)
  rintro e wq5 ⟨v529,rfl,ho0,hb⟩;refine ⟨_,rfl,?_⟩;have HO530:=a_ (Kd.R_lower (Kd.R_new' ho0 (Kd.R_lt (mo_ HO527.out))) (below_size (mb_ HB)));replace HO527:=a_ (Kd.R_elder' (mo_ HO527.out) (Kd.R_base ho0) hb);replace BK521:=mk_ BK521 hb;replace BK522:=mk_ BK522 hb;replace HB:=ms_ HB hb;(try clear hb);(try clear hb2);(try clear hk);(try clear hi);(try clear ho0);obtain ⟨Aoq6,coq7,eoq8⟩:=Kd.R_slice HO527.out;(first|subst eoq8|(injection eoq8 with f1_ f2_ f3_;have f4_:=f1_.symm;have f5_:=f3_.symm;clear f1_ f2_ f3_;subst f4_;subst f5_));obtain ⟨Aoq9,coq10,eoq11⟩:=Kd.R_slice HO530.out;(first|subst eoq11|(injection eoq11 with f1_ f2_ f3_;have f4_:=f1_.symm;have f5_:=f3_.symm;clear f1_ f2_ f3_;subst f4_;subst f5_));refine hK.out _ _ ⟨bk_ BK521 0,bk_ BK521 1,bk_ BK522 0,bk_ BK522 1⟩ (fun hHeld=>?_);clear hK K;refine nm_ 33 ?_;refine one_ (i:=6) (N:=some 34) ba89_22 rfl rfl (one_of HT_.out (by kernel_rfl)) (by decide) (fun K hK=>?_);refine goes_ Tryz.func56 (by kernel_rfl) rfl #[.slice Aoq6 t525.length coq7,.slice Aoq9 t528.length coq10] (by rfl) rfl rfl mw_ ?_;with_reducible refine (slices_Compare_int_int.calls k _ _ t525 _ _ t528 t531 _ ?side1 ?side2 ?side3 ?side4 A11.out).mono ?_
  (case side1=>repeat (first|exact (Kd.R_reads' HO527.out).2.2|(with_reducible refine Kd.C_alloc ?_ _)|(with_reducible refine Kd.C_drewN ?_ _)|(with_reducible refine Kd.C_drew ?_)))
  (case side2=>exact (Kd.R_reads' HO527.out).2.1)
  (case side3=>repeat (first|exact (Kd.R_reads' HO530.out).2.2|(with_reducible refine Kd.C_alloc ?_ _)|(with_reducible refine Kd.C_drewN ?_ _)|(with_reducible refine Kd.C_drew ?_)))
  (case side4=>exact (Kd.R_reads' HO530.out).2.1)
  rintro e w' ⟨rfl,⟨nd,rfl⟩⟩;refine ⟨_,rfl,?_⟩;refine hK.out _ _ ⟨bk_ BK521 0,bk_ BK521 1,bk_ BK522 0,bk_ BK522 1⟩ (fun hHeld=>?_);clear hK K;refine nm_ 34 ?_;refine pu_ 7 9 ba89_23 (any_of HT_.out (by kernel_rfl)) ?_;have H:=HD.out;clear HD;by_cases c12:t531=0
  ·rw [if_pos c12] at H;obtain ⟨c12b0,c12b1⟩:=bq_ c12;clear c12;obtain ⟨t532,A13,H⟩:=ob_ H;obtain rfl:=oi_ H;(try simp only [c12b0,c12b1]);refine done_ (done_of HT_.out (by kernel_rfl)) ?_;have nNBqq0:=NB521_522.out;have nNBqq1:=NB522_521.out;replace hzqq2:=cz2 BK521;replace hzqq3:=cz2 BK522;try go_wp2_with (first|((with_reducible refine gate_callee (f:=58) rfl ?_);refine goesL_ (some 41) rfl rfl Tryz.func58 (by kernel_rfl) rfl #[.agg #[.int .i64 a1_0,.slice A1_1 l1_1.length c1_1],.agg #[.int .i64 a2_0,.slice A2_1 l2_1.length c2_1]] rfl mw_ ?_;(with_reducible refine (impl_cmpInst.calls k a1_0 _ _ l1_1 a2_0 _ _ l2_1 t532 _ ?side1 HC1_1.out ?side3 HC2_1.out A13.out).mono ?_);(case side1=>repeat (first|exact (Kd.C_below HR1_1.out (mb_ HB))|(with_reducible refine Kd.C_alloc ?_ _)|(with_reducible refine Kd.C_drewN ?_ _)|(with_reducible refine Kd.C_drew ?_)));(case side3=>repeat (first|exact (Kd.C_below HR2_1.out (mb_ HB))|(with_reducible refine Kd.C_alloc ?_ _)|(with_reducible refine Kd.C_drewN ?_ _)|(with_reducible refine Kd.C_drew ?_)));rintro e wqq4 ⟨rfl,hb⟩;refine ⟨_,rfl,?_⟩;replace HO527:=ro_ HO527 hb;replace HO530:=ro_ HO530 hb;replace BK521:=mk_ BK521 hb;replace BK522:=mk_ BK522 hb;replace HB:=ms_ HB hb;(try clear hb)))
   go_ret;exact ⟨me_,mb_ HB⟩
  ·rw [if_neg c12] at H;obtain ⟨c12b0,c12b1⟩:=bn_ c12;obtain rfl:=oi_ H;(try simp only [c12b0,c12b1]);refine done_ (done_of HT_.out (by kernel_rfl)) ?_;try go_wp2
   go_ret;exact ⟨me_,mb_ HB⟩
 ·rw [if_neg c8] at H;obtain ⟨c8b0,c8b1⟩:=bn_ c8;obtain rfl:=oi_ H;(try simp only [c8b0,c8b1]);try go_wp2
  go_ret;exact ⟨me_,mb_ HB⟩
end Go.Proofs.YtejjlkbbnhpbdaaGreat.P
namespace Go.Proofs.YtejjlkbbnhpbdaaGreat.P
open Go.Proofs.YtejjlkbbnhpbdaaGreatX
open Go.RowKit Go.Proofs.YtejjlkbbnhpbdaaGreatW.PrintWords Go.Proofs.YtejjlkbbnhpbdaaGreatW.PrintLast Go.Proofs.YtejjlkbbnhpbdaaGreatW.PrintMore
attribute [local go_sem] max2_int min2_int max_two min_two max_three min_three max_four min_four
set_option linter.unusedVariables false
set_option linter.unusedSimpArgs false
def impl_Before.f (k:Nat) (l0:List (S58)) (a1_0:Int) (l1_1:List Int) (a2_0:Int) (l2_1:List Int):Option (Bool):=(impl_there.f l0 a1_0 l1_1).bind fun t535=>(if t535=true then ((impl_there.f l0 a2_0 l2_1).bind fun t536=>(if t536=true then ((impl_checked.f k l0).bind fun t537=>(if t537=true then ((impl_before.f k l0 a1_0 l1_1 a2_0 l2_1).bind fun t538=>(some t538)) else (some false))) else (some false))) else (some false))
theorem impl_Before.mono:∀a0 a1 a2 a3 a4 k,LeO (impl_Before.f k a0 a1 a2 a3 a4) (impl_Before.f (k+1) a0 a1 a2 a3 a4):=by
 intro a0 a1 a2 a3 a4 k;unfold impl_Before.f
 repeat' with_reducible first|apply impl_before.mono|apply impl_checked.mono|apply LeO.refl|apply LeO.none|refine LeO.ite ?_ ?_|refine LeO.bind ?_ (fun _=>?_)
def laws_eqValue.f (a0_0:Int) (a0_1:Int) (a0_2:ByteArray) (a1_0:Int) (a1_1:Int) (a1_2:ByteArray):Option (Bool):=if a0_0=a1_0 then (if a0_1=a1_1 then (if a0_2.toList=a1_2.toList then (some true) else (some false)) else (some false)) else (some false)
set_option maxHeartbeats 8000000 in
set_option maxRecDepth 100000 in
theorem laws_eqValue.calls (a0_0:Int) (a0_1:Int) (a0_2:ByteArray) (a1_0:Int) (a1_1:Int) (a1_2:ByteArray) (r:Bool) (w:World) (h:laws_eqValue.f a0_0 a0_1 a0_2 a1_0 a1_1 a1_2=some r) (hT_:r=true:=by first|rfl|assumption):
  Calls Tryz.prog 103 #[.agg #[.int .i64 a0_0,.int .i64 a0_1,.string a0_2],.agg #[.int .i64 a1_0,.int .i64 a1_1,.string a1_2]] w fun e w'=>e=.returned (.bool r)∧Below w.heap.size w w':=by
 subst hT_;have hu104:=Tryz.underlying104;have HB:=a_ (Below.refl w.heap.size w);have H:=h;unfold laws_eqValue.f at H
 clear h;by_cases c3:a0_0=a1_0
 case neg=>
  rw [if_neg c3] at H;obtain ⟨c3b0,c3b1⟩:=bn_ c3;exact absurd (Option.some.inj H) (by decide)
 rw [if_pos c3] at H;obtain ⟨c3b0,c3b1⟩:=bq_ c3;clear c3;by_cases c4:a0_1=a1_1
 case neg=>
  rw [if_neg c4] at H;obtain ⟨c4b0,c4b1⟩:=bn_ c4;exact absurd (Option.some.inj H) (by decide)
 rw [if_pos c4] at H;obtain ⟨c4b0,c4b1⟩:=bq_ c4;clear c4;by_cases c5:a0_2.toList=a1_2.toList
 case neg=>
  rw [if_neg c5] at H;obtain ⟨c5b0,c5b1⟩:=bn_ c5;exact absurd (Option.some.inj H) (by decide)
 rw [if_pos c5] at H;obtain ⟨c5b0,c5b1⟩:=bq_ c5;clear c5;clear H;go_enter Tryz.func103,Tryz.ntmps103;go_wp2_with (first|((with_reducible refine gate_dst (N:=2) rfl ?_);refine bh_ 2 #[.int .i64 a0_0,.int .i64 a0_1,.string a0_2] 104 HB ?_;intro gb539 hg wx BK539 GE539 hb;replace HB:=ms_ HB hb;clear hb hg)|((with_reducible refine gate_dst (N:=3) rfl ?_);refine bh_ 3 #[.int .i64 a1_0,.int .i64 a1_1,.string a1_2] 104 HB ?_;intro gb540 hg wx BK540 GE540 hb;obtain ⟨NB539_540,NB540_539⟩:=mn_ BK539 hg;replace BK539:=mk_ BK539 hb;replace HB:=ms_ HB hb;clear hb hg;have nNB539_540:=NB539_540.out;have nNB540_539:=NB540_539.out;replace hz539:=cz3 BK539;replace hz540:=cz3 BK540));go_ret;exact ⟨me_,mb_ HB⟩
def laws_eqTerm.f (a0_0:Int) (a0_1:Int) (a0_2:ByteArray) (a0_3:Int) (a0_4:Int) (a0_5:ByteArray) (a1_0:Int) (a1_1:Int) (a1_2:ByteArray) (a1_3:Int) (a1_4:Int) (a1_5:ByteArray):Option (Bool):=if a0_0=a1_0 then (if a0_1=a1_1 then (if a0_2.toList=a1_2.toList then ((laws_eqValue.f a0_3 a0_4 a0_5 a1_3 a1_4 a1_5).bind fun t543=>(if t543=true then (some true) else (some false))) else (some false)) else (some false)) else (some false)
set_option maxHeartbeats 8000000 in
set_option maxRecDepth 100000 in
theorem laws_eqTerm.calls (a0_0:Int) (a0_1:Int) (a0_2:ByteArray) (a0_3:Int) (a0_4:Int) (a0_5:ByteArray) (a1_0:Int) (a1_1:Int) (a1_2:ByteArray) (a1_3:Int) (a1_4:Int) (a1_5:ByteArray) (r:Bool) (w:World) (h:laws_eqTerm.f a0_0 a0_1 a0_2 a0_3 a0_4 a0_5 a1_0 a1_1 a1_2 a1_3 a1_4 a1_5=some r) (hT_:r=true:=by first|rfl|assumption):
  Calls Tryz.prog 129 #[.agg #[.int .i64 a0_0,.int .i64 a0_1,.string a0_2,.int .i64 a0_3,.int .i64 a0_4,.string a0_5],.agg #[.int .i64 a1_0,.int .i64 a1_1,.string a1_2,.int .i64 a1_3,.int .i64 a1_4,.string a1_5]] w fun e w'=>e=.returned (.bool r)∧Below w.heap.size w w':=by
 subst hT_;have hu134:=Tryz.underlying134;have hu104:=Tryz.underlying104;have HB:=a_ (Below.refl w.heap.size w);have H:=h;unfold laws_eqTerm.f at H
 clear h;by_cases c3:a0_0=a1_0
 case neg=>
  rw [if_neg c3] at H;obtain ⟨c3b0,c3b1⟩:=bn_ c3;exact absurd (Option.some.inj H) (by decide)
 rw [if_pos c3] at H;obtain ⟨c3b0,c3b1⟩:=bq_ c3;clear c3;by_cases c4:a0_1=a1_1
 case neg=>
  rw [if_neg c4] at H;obtain ⟨c4b0,c4b1⟩:=bn_ c4;exact absurd (Option.some.inj H) (by decide)
 rw [if_pos c4] at H;obtain ⟨c4b0,c4b1⟩:=bq_ c4;clear c4;by_cases c5:a0_2.toList=a1_2.toList
 case neg=>
  rw [if_neg c5] at H;obtain ⟨c5b0,c5b1⟩:=bn_ c5;exact absurd (Option.some.inj H) (by decide)
 rw [if_pos c5] at H;obtain ⟨c5b0,c5b1⟩:=bq_ c5;clear c5;obtain ⟨t543,A6,H⟩:=ob_ H;by_cases c7:t543=true
 ·subst c7;rw [if_pos rfl] at H;clear H;go_enter Tryz.func129,Tryz.ntmps129;go_wp2_with (first|((with_reducible refine gate_dst (N:=2) rfl ?_);refine bh_ 2 #[.int .i64 a0_0,.int .i64 a0_1,.string a0_2,.int .i64 a0_3,.int .i64 a0_4,.string a0_5] 134 HB ?_;intro gb541 hg wx BK541 GE541 hb;replace HB:=ms_ HB hb;clear hb hg)|((with_reducible refine gate_dst (N:=3) rfl ?_);refine bh_ 3 #[.int .i64 a1_0,.int .i64 a1_1,.string a1_2,.int .i64 a1_3,.int .i64 a1_4,.string a1_5] 134 HB ?_;intro gb542 hg wx BK542 GE542 hb;obtain ⟨NB541_542,NB542_541⟩:=mn_ BK541 hg;replace BK541:=mk_ BK541 hb;replace HB:=ms_ HB hb;clear hb hg;have nNB541_542:=NB541_542.out;have nNB542_541:=NB542_541.out;replace hz541:=cz6 BK541;replace hz542:=cz6 BK542)|((with_reducible refine gate_callee (f:=103) rfl ?_);refine goesL_ (some 24) rfl rfl Tryz.func103 (by kernel_rfl) rfl #[.agg #[.int .i64 a0_3,.int .i64 a0_4,.string a0_5],.agg #[.int .i64 a1_3,.int .i64 a1_4,.string a1_5]] rfl mw_ ?_;(with_reducible refine (laws_eqValue.calls a0_3 a0_4 a0_5 a1_3 a1_4 a1_5 true _ A6.out).mono ?_);rintro e wx ⟨rfl,hb⟩;refine ⟨_,rfl,?_⟩;replace BK541:=mk_ BK541 hb;replace BK542:=mk_ BK542 hb;replace HB:=ms_ HB hb;(try clear hb)));go_ret;exact ⟨me_,mb_ HB⟩
 ·replace c7:=Bool.eq_false_iff.mpr c7;subst c7;rw [if_neg (show ¬(false=true) by decide)] at H;exact absurd (Option.some.inj H) (by decide)
def laws_eqTermS.l0:Nat→List (S134)→List (S134)→Int→Option (Bool)
 | 0,_,_,_=>none
 | k+1,x0,x1,x5=>if x5<(x0.length:Int) then (if 0≤x5 then (if x5<(x1.length:Int) then ((laws_eqTerm.f ((rd_T134 x0 x5).f0) ((rd_T134 x0 x5).f1) ((rd_T134 x0 x5).f2) ((rd_T134 x0 x5).f3.f0) ((rd_T134 x0 x5).f3.f1) ((rd_T134 x0 x5).f3.f2) ((rd_T134 x1 x5).f0) ((rd_T134 x1 x5).f1) ((rd_T134 x1 x5).f2) ((rd_T134 x1 x5).f3.f0) ((rd_T134 x1 x5).f3.f1) ((rd_T134 x1 x5).f3.f2)).bind fun t546=>(if t546=true then (laws_eqTermS.l0 k x0 x1 (wrap64 (x5+1))) else (some false))) else (none)) else (none)) else (some true)
def laws_eqTermS.f (k:Nat) (l0:List (S134)) (l1:List (S134)):Option (Bool):=if (l0.length:Int)=(l1.length:Int) then (laws_eqTermS.l0 k l0 l1 0) else (some false)
theorem laws_eqTermS.mono_l:∀k,(∀y0 y1 y2,LeO (laws_eqTermS.l0 k y0 y1 y2) (laws_eqTermS.l0 (k+1) y0 y1 y2))
 | 0=>fun _ _ _ r h=>by simp [laws_eqTermS.l0] at h
 | k+1=>by
  have ih0:=laws_eqTermS.mono_l k
  ·intro y0 y1 y2;unfold laws_eqTermS.l0
   repeat' with_reducible first|apply ih0|apply LeO.refl|apply LeO.none|refine LeO.ite ?_ ?_|refine LeO.bind ?_ (fun _=>?_)
theorem laws_eqTermS.mono:∀a0 a1 k,LeO (laws_eqTermS.f k a0 a1) (laws_eqTermS.f (k+1) a0 a1):=by
 intro a0 a1 k;have ih0:=laws_eqTermS.mono_l k;unfold laws_eqTermS.f
 repeat' with_reducible first|apply ih0|apply LeO.refl|apply LeO.none|refine LeO.ite ?_ ?_|refine LeO.bind ?_ (fun _=>?_)
def laws_eqTermS.T6:Bool×List (List Nat×List Nat):=(true,[([],[]),([],[]),([0,1],[0,1]),([2],[2]),([],[]),([],[]),([4,5],[4,5]),([6],[6]),([3,7],[3,7]),([8],[8])])
def laws_eqTermS.B6:List Nat:=[0,0,3,7,0,0,48,112,255,511]
theorem laws_eqTermS.tab6:rtab .any (opsOf Tryz.f102 6)=laws_eqTermS.T6:=by kernel_rfl
theorem laws_eqTermS.bits6:waitsOk laws_eqTermS.T6.2 laws_eqTermS.B6=true:=by kernel_rfl
abbrev be11_0:Array Bool:=#[f_,f_,f_,f_,f_,f_,f_,f_,f_,f_]
abbrev be11_1:Array Bool:=#[t_,f_,f_,f_,f_,f_,f_,f_,f_,f_]
abbrev be11_2:Array Bool:=#[t_,t_,f_,f_,f_,f_,f_,f_,f_,f_]
abbrev be11_3:Array Bool:=#[t_,t_,t_,f_,f_,f_,f_,f_,f_,f_]
abbrev be11_4:Array Bool:=#[t_,t_,t_,f_,t_,f_,f_,f_,f_,f_]
abbrev be11_5:Array Bool:=#[t_,t_,t_,f_,t_,t_,f_,f_,f_,f_]
abbrev be11_6:Array Bool:=#[t_,t_,t_,f_,t_,t_,t_,f_,f_,f_]
abbrev be11_7:Array Bool:=#[t_,t_,t_,t_,t_,t_,t_,f_,f_,f_]
abbrev be11_8:Array Bool:=#[t_,t_,t_,t_,t_,t_,t_,t_,f_,f_]
abbrev be11_9:Array Bool:=#[t_,t_,t_,t_,t_,t_,t_,t_,t_,f_]
abbrev be11_10:Array Bool:=#[t_,t_,t_,t_,t_,t_,t_,t_,t_,t_]
set_option maxHeartbeats 8000000 in
set_option maxRecDepth 100000 in
theorem laws_eqTermS.calls (k:Nat) (A0:Option Addr) (c0:Nat) (l0:List (S134)) (A1:Option Addr) (c1:Nat) (l1:List (S134)) (r:Bool) (w:World) (hr0:Kd.C k134 w A0 l0.length l0) (hc0:l0.length≤c0) (hr1:Kd.C k134 w A1 l1.length l1) (hc1:l1.length≤c1) (h:laws_eqTermS.f k l0 l1=some r) (hT_:r=true:=by first|rfl|assumption):
  Calls Tryz.prog 102 #[.slice A0 l0.length c0,.slice A1 l1.length c1] w fun e w'=>e=.returned (.bool r)∧Below w.heap.size w w':=by
 subst hT_;have hu134:=Tryz.underlying134;have HR0:=a_ hr0;have HC0:=a_ hc0;clear hr0 hc0;have HR1:=a_ hr1;have HC1:=a_ hc1;clear hr1 hc1;have HB:=a_ (Below.refl w.heap.size w);have H:(if (l0.length:Int)=(l1.length:Int) then (laws_eqTermS.l0 k l0 l1 0) else (some false))=some true:=h
 clear h;by_cases c3:(l0.length:Int)=(l1.length:Int)
 ·rw [if_pos c3] at H;obtain ⟨c3b0,c3b1⟩:=bq_ c3;have c3b2:(l0.length==l1.length)=true:=by first|simpa using c3|(simp at c3 ⊢;omega)
  clear c3;have H':=a_ H;clear H;go_enter Tryz.func102,Tryz.ntmps102;go_wp2;go_loopg [5] k (fun kq v5 w'=>∃(x5_1:Int),v5=.int .i64 x5_1∧Aside0 (laws_eqTermS.l0 kq l0 l1 x5_1=some true)∧Aside0 (kq≤k)∧Aside0 (Below w.heap.size w w'))
  case atStart=>exact ⟨(0),mq_,H',⟨Nat.le_refl _⟩,⟨mb_ HB⟩⟩
  clear H';(try clear c3b0);(try clear c3b1);(try clear c3b2);obtain ⟨x5_1,rfl,HA,HK1,HB⟩:=hrel;obtain _|k1:=gk
  ·exact absurd HA.out (by simp [laws_eqTermS.l0])
  have H:=HA.out;clear HA;simp only [laws_eqTermS.l0] at H;by_cases c4:x5_1<(l0.length:Int)
  ·rw [if_pos c4] at H;have c4b0:=ct_ c4;clear c4;by_cases c5:0≤x5_1
   case neg=>
    rw [if_neg c5] at H;cases H
   rw [if_pos c5] at H;have c5b0:=ct_ c5;clear c5;by_cases c6:x5_1<(l1.length:Int)
   case neg=>
    rw [if_neg c6] at H;cases H
   rw [if_pos c6] at H;have c6b0:=ct_ c6;clear c6;obtain ⟨t546,A7,H⟩:=ob_ H;by_cases c8:t546=true
   ·subst c8;rw [if_pos rfl] at H;have H':=a_ H;clear H;try go_wp2
    replace HB:=a_ (below_drew1 HB.out);have p544:0≤(x5_1:Int):=md_
    have q544:x5_1<(l0.length:Int):=md_
    obtain ⟨ad544,e544,hx544_0,hx544_1,hx544_2,hx544_3,hx544_4,hx544_5⟩:=at_T134 HR0.out x5_1 p544 q544;have hw544_5:=hx544_5;have hw544_4:=hx544_4;have hw544_3:=hx544_3;have hw544_2:=hx544_2;have hw544_1:=hx544_1;have hw544_0:=hx544_0;cases e544;replace hx544_0:=mx_ HB hx544_0;replace hx544_1:=mx_ HB hx544_1;replace hx544_2:=mx_ HB hx544_2;replace hx544_3:=mx_ HB hx544_3;replace hx544_4:=mx_ HB hx544_4;replace hx544_5:=mx_ HB hx544_5;replace p544:=eq_true p544;replace q544:=eq_true q544;have p545:0≤(x5_1:Int):=md_
    have q545:x5_1<(l1.length:Int):=md_
    obtain ⟨ad545,e545,hx545_0,hx545_1,hx545_2,hx545_3,hx545_4,hx545_5⟩:=at_T134 HR1.out x5_1 p545 q545;have hw545_5:=hx545_5;have hw545_4:=hx545_4;have hw545_3:=hx545_3;have hw545_2:=hx545_2;have hw545_1:=hx545_1;have hw545_0:=hx545_0;cases e545;replace hx545_0:=mx_ HB hx545_0;replace hx545_1:=mx_ HB hx545_1;replace hx545_2:=mx_ HB hx545_2;replace hx545_3:=mx_ HB hx545_3;replace hx545_4:=mx_ HB hx545_4;replace hx545_5:=mx_ HB hx545_5;replace p545:=eq_true p545;replace q545:=eq_true q545;refine start_ (n:=10) (S:=fun w'=>w'.cell? (ad544.add ((x5_1).toNat*6))=some (.int .i64 ((rd_T134 l0 x5_1).f0))∧w'.cell? ⟨(ad544.add ((x5_1).toNat*6)).block,(ad544.add ((x5_1).toNat*6)).off+1,none⟩=some (.int .i64 ((rd_T134 l0 x5_1).f1))∧w'.cell? ⟨(ad544.add ((x5_1).toNat*6)).block,(ad544.add ((x5_1).toNat*6)).off+2,none⟩=some (.string ((rd_T134 l0 x5_1).f2))∧w'.cell? ⟨(ad544.add ((x5_1).toNat*6)).block,(ad544.add ((x5_1).toNat*6)).off+3,none⟩=some (.int .i64 ((rd_T134 l0 x5_1).f3.f0))∧w'.cell? ⟨(ad544.add ((x5_1).toNat*6)).block,(ad544.add ((x5_1).toNat*6)).off+4,none⟩=some (.int .i64 ((rd_T134 l0 x5_1).f3.f1))∧w'.cell? ⟨(ad544.add ((x5_1).toNat*6)).block,(ad544.add ((x5_1).toNat*6)).off+5,none⟩=some (.string ((rd_T134 l0 x5_1).f3.f2))∧w'.cell? (ad545.add ((x5_1).toNat*6))=some (.int .i64 ((rd_T134 l1 x5_1).f0))∧w'.cell? ⟨(ad545.add ((x5_1).toNat*6)).block,(ad545.add ((x5_1).toNat*6)).off+1,none⟩=some (.int .i64 ((rd_T134 l1 x5_1).f1))∧w'.cell? ⟨(ad545.add ((x5_1).toNat*6)).block,(ad545.add ((x5_1).toNat*6)).off+2,none⟩=some (.string ((rd_T134 l1 x5_1).f2))∧w'.cell? ⟨(ad545.add ((x5_1).toNat*6)).block,(ad545.add ((x5_1).toNat*6)).off+3,none⟩=some (.int .i64 ((rd_T134 l1 x5_1).f3.f0))∧w'.cell? ⟨(ad545.add ((x5_1).toNat*6)).block,(ad545.add ((x5_1).toNat*6)).off+4,none⟩=some (.int .i64 ((rd_T134 l1 x5_1).f3.f1))∧w'.cell? ⟨(ad545.add ((x5_1).toNat*6)).block,(ad545.add ((x5_1).toNat*6)).off+5,none⟩=some (.string ((rd_T134 l1 x5_1).f3.f2))) (ds:=[]) be11_0 (by kernel_rfl) rfl rfl ⟨(mx_ HB hw544_0),(mx_ HB hw544_1),(mx_ HB hw544_2),(mx_ HB hw544_3),(mx_ HB hw544_4),(mx_ HB hw544_5),(mx_ HB hw545_0),(mx_ HB hw545_1),(mx_ HB hw545_2),(mx_ HB hw545_3),(mx_ HB hw545_4),(mx_ HB hw545_5)⟩ (fun hHeld=>?_);refine with_tabW laws_eqTermS.tab6 laws_eqTermS.bits6 (fun HT_ HW_=>?_);generalize wr.drew=w9 at HB hx544_0 hx544_1 hx544_2 hx544_3 hx544_4 hx544_5 hx545_0 hx545_1 hx545_2 hx545_3 hx545_4 hx545_5 hHeld ⊢;refine pu_ 0 17 be11_1 (any_of HT_.out (by kernel_rfl)) ?_;refine pu_ 1 18 be11_2 (any_of HT_.out (by kernel_rfl)) ?_;refine pu_ 2 19 be11_3 (any_of HT_.out (by kernel_rfl)) ?_
    refine pu_ 4 21 be11_4 (any_of HT_.out (by kernel_rfl)) ?_;refine pu_ 5 22 be11_5 (any_of HT_.out (by kernel_rfl)) ?_;refine pu_ 6 23 be11_6 (any_of HT_.out (by kernel_rfl)) ?_;refine tk_ 3 20 be11_7 (take_ofW HT_.out HW_.out (by kernel_rfl)) hHeld ?_;refine tk_ 7 24 be11_8 (take_ofW HT_.out HW_.out (by kernel_rfl)) hHeld ?_;refine one_ (i:=8) (N:=some 25) be11_9 rfl rfl (one_of HT_.out (by kernel_rfl)) (by decide) (fun K hK=>?_);refine goes_ Tryz.func129 (by kernel_rfl) rfl #[.agg #[.int .i64 ((rd_T134 l0 x5_1).f0),.int .i64 ((rd_T134 l0 x5_1).f1),.string ((rd_T134 l0 x5_1).f2),.int .i64 ((rd_T134 l0 x5_1).f3.f0),.int .i64 ((rd_T134 l0 x5_1).f3.f1),.string ((rd_T134 l0 x5_1).f3.f2)],.agg #[.int .i64 ((rd_T134 l1 x5_1).f0),.int .i64 ((rd_T134 l1 x5_1).f1),.string ((rd_T134 l1 x5_1).f2),.int .i64 ((rd_T134 l1 x5_1).f3.f0),.int .i64 ((rd_T134 l1 x5_1).f3.f1),.string ((rd_T134 l1 x5_1).f3.f2)]] (by rfl) rfl rfl mw_ ?_;with_reducible refine (laws_eqTerm.calls ((rd_T134 l0 x5_1).f0) ((rd_T134 l0 x5_1).f1) ((rd_T134 l0 x5_1).f2) ((rd_T134 l0 x5_1).f3.f0) ((rd_T134 l0 x5_1).f3.f1) ((rd_T134 l0 x5_1).f3.f2) ((rd_T134 l1 x5_1).f0) ((rd_T134 l1 x5_1).f1) ((rd_T134 l1 x5_1).f2) ((rd_T134 l1 x5_1).f3.f0) ((rd_T134 l1 x5_1).f3.f1) ((rd_T134 l1 x5_1).f3.f2) true _ A7.out).mono ?_
    rintro e w10 ⟨rfl,hb⟩;refine ⟨_,rfl,?_⟩;replace HB:=ms_ HB hb;(try clear hb);(try clear hb2);(try clear hk);(try clear hi);refine hK.out _ _ ⟨(mx_ HB hw544_0),(mx_ HB hw544_1),(mx_ HB hw544_2),(mx_ HB hw544_3),(mx_ HB hw544_4),(mx_ HB hw544_5),(mx_ HB hw545_0),(mx_ HB hw545_1),(mx_ HB hw545_2),(mx_ HB hw545_3),(mx_ HB hw545_4),(mx_ HB hw545_5)⟩ (fun hHeld=>?_);clear hK K;refine nm_ 25 ?_;refine pu_ 9 26 be11_10 (any_of HT_.out (by kernel_rfl)) ?_;refine done_ (done_of HT_.out (by kernel_rfl)) ?_;try go_wp2
    go_roundg k1
    case measure=>
     have:=HK1.out
     omega
    case rel=>exact ⟨(wrap64 (x5_1+1)),mq_,H',⟨by have:=HK1.out;omega⟩,⟨mb_ HB⟩⟩
   ·replace c8:=Bool.eq_false_iff.mpr c8;subst c8;rw [if_neg (show ¬(false=true) by decide)] at H;exact absurd (Option.some.inj H) (by decide)
  ·rw [if_neg c4] at H;have c4b0:=cf_ c4;clear c4;clear H;go_wp2;go_ret;exact ⟨me_,mb_ HB⟩
 ·rw [if_neg c3] at H;obtain ⟨c3b0,c3b1⟩:=bn_ c3;have c3b2:(l0.length==l1.length)=false:=by first|simpa using c3|(simp at c3 ⊢;omega)
  exact absurd (Option.some.inj H) (by decide)
def laws_eqPattern.f (k:Nat) (a0_0:Bool) (a0_1:ByteArray) (l0_2:List (S134)) (a1_0:Bool) (a1_1:ByteArray) (l1_2:List (S134)):Option (Bool):=if (a0_0 != a1_0)=true then (some false) else (if a0_1.toList=a1_1.toList then ((laws_eqTermS.f k l0_2 l1_2).bind fun t549=>(if t549=true then (some true) else (some false))) else (some false))
theorem laws_eqPattern.mono:∀a0 a1 a2 a3 a4 a5 k,LeO (laws_eqPattern.f k a0 a1 a2 a3 a4 a5) (laws_eqPattern.f (k+1) a0 a1 a2 a3 a4 a5):=by
 intro a0 a1 a2 a3 a4 a5 k;unfold laws_eqPattern.f
 repeat' with_reducible first|apply laws_eqTermS.mono|apply LeO.refl|apply LeO.none|refine LeO.ite ?_ ?_|refine LeO.bind ?_ (fun _=>?_)
set_option maxHeartbeats 8000000 in
set_option maxRecDepth 100000 in
theorem laws_eqPattern.calls (k:Nat) (a0_0:Bool) (a0_1:ByteArray) (A0_2:Option Addr) (c0_2:Nat) (l0_2:List (S134)) (a1_0:Bool) (a1_1:ByteArray) (A1_2:Option Addr) (c1_2:Nat) (l1_2:List (S134)) (r:Bool) (w:World) (hr0_2:Kd.C k134 w A0_2 l0_2.length l0_2) (hc0_2:l0_2.length≤c0_2) (hr1_2:Kd.C k134 w A1_2 l1_2.length l1_2) (hc1_2:l1_2.length≤c1_2) (h:laws_eqPattern.f k a0_0 a0_1 l0_2 a1_0 a1_1 l1_2=some r) (hT_:r=true:=by first|rfl|assumption):
  Calls Tryz.prog 82 #[.agg #[.bool a0_0,.string a0_1,.slice A0_2 l0_2.length c0_2],.agg #[.bool a1_0,.string a1_1,.slice A1_2 l1_2.length c1_2]] w fun e w'=>e=.returned (.bool r)∧Below w.heap.size w w':=by
 subst hT_;have hu101:=Tryz.underlying101;have HR0_2:=a_ hr0_2;have HC0_2:=a_ hc0_2;clear hr0_2 hc0_2;have HR1_2:=a_ hr1_2;have HC1_2:=a_ hc1_2;clear hr1_2 hc1_2;have HB:=a_ (Below.refl w.heap.size w);have H:=h;unfold laws_eqPattern.f at H
 clear h;by_cases c3:(a0_0 != a1_0)=true
 ·rw [if_pos c3] at H;have c3b0:(a0_0 != a1_0)=true:=c3
  (try (have c3b1:decide (a0_0=a1_0)=false:=by simpa using c3));(try (have c3b2:(a0_0==a1_0)=false:=by simpa using c3));(try (have c3b3:¬(a0_0=a1_0):=by simpa using c3));clear c3;exact absurd (Option.some.inj H) (by decide)
 ·rw [if_neg c3] at H;have c3b0:(a0_0 != a1_0)=false:=by simpa using c3
  (try (have c3b1:decide (a0_0=a1_0)=true:=by simpa using c3));(try (have c3b2:(a0_0==a1_0)=true:=by simpa using c3));clear c3;by_cases c4:a0_1.toList=a1_1.toList
  case neg=>
   rw [if_neg c4] at H;obtain ⟨c4b0,c4b1⟩:=bn_ c4;exact absurd (Option.some.inj H) (by decide)
  rw [if_pos c4] at H;obtain ⟨c4b0,c4b1⟩:=bq_ c4;clear c4;obtain ⟨t549,A5,H⟩:=ob_ H;by_cases c6:t549=true
  ·subst c6;rw [if_pos rfl] at H;clear H;go_enter Tryz.func82,Tryz.ntmps82;go_wp2_with (first|((with_reducible refine gate_dst (N:=2) rfl ?_);refine bh_ 2 #[.bool a0_0,.string a0_1,.slice A0_2 l0_2.length c0_2] 101 HB ?_;intro gb547 hg wx BK547 GE547 hb;replace HB:=ms_ HB hb;clear hb hg)|((with_reducible refine gate_dst (N:=3) rfl ?_);refine bh_ 3 #[.bool a1_0,.string a1_1,.slice A1_2 l1_2.length c1_2] 101 HB ?_;intro gb548 hg wx BK548 GE548 hb;obtain ⟨NB547_548,NB548_547⟩:=mn_ BK547 hg;replace BK547:=mk_ BK547 hb;replace HB:=ms_ HB hb;clear hb hg;have nNB547_548:=NB547_548.out;have nNB548_547:=NB548_547.out;replace hz547:=cz3 BK547;replace hz548:=cz3 BK548)|((with_reducible refine gate_callee (f:=102) rfl ?_);refine goesL_ (some 19) rfl rfl Tryz.func102 (by kernel_rfl) rfl #[.slice A0_2 l0_2.length c0_2,.slice A1_2 l1_2.length c1_2] rfl mw_ ?_;(with_reducible refine (laws_eqTermS.calls k _ _ l0_2 _ _ l1_2 true _ ?side1 HC0_2.out ?side3 HC1_2.out A5.out).mono ?_);(case side1=>exact mt_ HR0_2 HB);(case side3=>exact mt_ HR1_2 HB);rintro e wx ⟨rfl,hb⟩;refine ⟨_,rfl,?_⟩;replace BK547:=mk_ BK547 hb;replace BK548:=mk_ BK548 hb;replace HB:=ms_ HB hb;(try clear hb)));go_ret;exact ⟨me_,mb_ HB⟩
  ·replace c6:=Bool.eq_false_iff.mpr c6;subst c6;rw [if_neg (show ¬(false=true) by decide)] at H;exact absurd (Option.some.inj H) (by decide)
end Go.Proofs.YtejjlkbbnhpbdaaGreat.P
namespace Go.Proofs.YtejjlkbbnhpbdaaGreat.P
open Go.Proofs.YtejjlkbbnhpbdaaGreatX
open Go.RowKit Go.Proofs.YtejjlkbbnhpbdaaGreatW.PrintWords Go.Proofs.YtejjlkbbnhpbdaaGreatW.PrintLast Go.Proofs.YtejjlkbbnhpbdaaGreatW.PrintMore
attribute [local go_sem] max2_int min2_int max_two min_two max_three min_three max_four min_four
set_option linter.unusedVariables false
set_option linter.unusedSimpArgs false
def laws_eqPatternS.l0:Nat→List (S101)→List (S101)→Int→Option (Bool)
 | 0,_,_,_=>none
 | k+1,x0,x1,x5=>if x5<(x0.length:Int) then (if 0≤x5 then (if x5<(x1.length:Int) then ((laws_eqPattern.f k ((rd_T101 x0 x5).f0) ((rd_T101 x0 x5).f1) ((rd_T101 x0 x5).f2) ((rd_T101 x1 x5).f0) ((rd_T101 x1 x5).f1) ((rd_T101 x1 x5).f2)).bind fun t552=>(if t552=true then (laws_eqPatternS.l0 k x0 x1 (wrap64 (x5+1))) else (some false))) else (none)) else (none)) else (some true)
def laws_eqPatternS.f (k:Nat) (l0:List (S101)) (l1:List (S101)):Option (Bool):=if (l0.length:Int)=(l1.length:Int) then (laws_eqPatternS.l0 k l0 l1 0) else (some false)
theorem laws_eqPatternS.mono_l:∀k,(∀y0 y1 y2,LeO (laws_eqPatternS.l0 k y0 y1 y2) (laws_eqPatternS.l0 (k+1) y0 y1 y2))
 | 0=>fun _ _ _ r h=>by simp [laws_eqPatternS.l0] at h
 | k+1=>by
  have ih0:=laws_eqPatternS.mono_l k
  ·intro y0 y1 y2;unfold laws_eqPatternS.l0
   repeat' with_reducible first|apply ih0|apply laws_eqPattern.mono|apply LeO.refl|apply LeO.none|refine LeO.ite ?_ ?_|refine LeO.bind ?_ (fun _=>?_)
theorem laws_eqPatternS.mono:∀a0 a1 k,LeO (laws_eqPatternS.f k a0 a1) (laws_eqPatternS.f (k+1) a0 a1):=by
 intro a0 a1 k;have ih0:=laws_eqPatternS.mono_l k;unfold laws_eqPatternS.f
 repeat' with_reducible first|apply ih0|apply laws_eqPattern.mono|apply LeO.refl|apply LeO.none|refine LeO.ite ?_ ?_|refine LeO.bind ?_ (fun _=>?_)
def laws_eqPatternS.T6:Bool×List (List Nat×List Nat):=(true,[([],[]),([],[]),([0,1],[0,1]),([2],[2]),([],[]),([],[]),([4,5],[4,5]),([6],[6]),([3,7],[3,7]),([8],[8])])
def laws_eqPatternS.B6:List Nat:=[0,0,3,7,0,0,48,112,255,511]
theorem laws_eqPatternS.tab6:rtab .any (opsOf Tryz.f59 6)=laws_eqPatternS.T6:=by kernel_rfl
theorem laws_eqPatternS.bits6:waitsOk laws_eqPatternS.T6.2 laws_eqPatternS.B6=true:=by kernel_rfl
abbrev b2c9_0:Array Bool:=#[f_,f_,f_,f_,f_,f_,f_,f_,f_,f_]
abbrev b2c9_1:Array Bool:=#[t_,f_,f_,f_,f_,f_,f_,f_,f_,f_]
abbrev b2c9_2:Array Bool:=#[t_,t_,f_,f_,f_,f_,f_,f_,f_,f_]
abbrev b2c9_3:Array Bool:=#[t_,t_,t_,f_,f_,f_,f_,f_,f_,f_]
abbrev b2c9_4:Array Bool:=#[t_,t_,t_,f_,t_,f_,f_,f_,f_,f_]
abbrev b2c9_5:Array Bool:=#[t_,t_,t_,f_,t_,t_,f_,f_,f_,f_]
abbrev b2c9_6:Array Bool:=#[t_,t_,t_,f_,t_,t_,t_,f_,f_,f_]
abbrev b2c9_7:Array Bool:=#[t_,t_,t_,t_,t_,t_,t_,f_,f_,f_]
abbrev b2c9_8:Array Bool:=#[t_,t_,t_,t_,t_,t_,t_,t_,f_,f_]
abbrev b2c9_9:Array Bool:=#[t_,t_,t_,t_,t_,t_,t_,t_,t_,f_]
abbrev b2c9_10:Array Bool:=#[t_,t_,t_,t_,t_,t_,t_,t_,t_,t_]
set_option maxHeartbeats 8000000 in
set_option maxRecDepth 100000 in
theorem laws_eqPatternS.calls (k:Nat) (A0:Option Addr) (c0:Nat) (l0:List (S101)) (A1:Option Addr) (c1:Nat) (l1:List (S101)) (r:Bool) (w:World) (hr0:Kd.C k101 w A0 l0.length l0) (hc0:l0.length≤c0) (hr1:Kd.C k101 w A1 l1.length l1) (hc1:l1.length≤c1) (h:laws_eqPatternS.f k l0 l1=some r) (hT_:r=true:=by first|rfl|assumption):
  Calls Tryz.prog 59 #[.slice A0 l0.length c0,.slice A1 l1.length c1] w fun e w'=>e=.returned (.bool r)∧Below w.heap.size w w':=by
 subst hT_;have hu101:=Tryz.underlying101;have HR0:=a_ hr0;have HC0:=a_ hc0;clear hr0 hc0;have HR1:=a_ hr1;have HC1:=a_ hc1;clear hr1 hc1;have HB:=a_ (Below.refl w.heap.size w);have H:=h;unfold laws_eqPatternS.f at H
 clear h;by_cases c3:(l0.length:Int)=(l1.length:Int)
 ·rw [if_pos c3] at H;obtain ⟨c3b0,c3b1⟩:=bq_ c3;have c3b2:(l0.length==l1.length)=true:=by first|simpa using c3|(simp at c3 ⊢;omega)
  clear c3;have H':=a_ H;clear H;go_enter Tryz.func59,Tryz.ntmps59;go_wp2;go_loopg [5] k (fun kq v5 w'=>∃(x5_1:Int),v5=.int .i64 x5_1∧Aside0 (laws_eqPatternS.l0 kq l0 l1 x5_1=some true)∧Aside0 (kq≤k)∧Aside0 (Below w.heap.size w w'))
  case atStart=>exact ⟨(0),mq_,H',⟨Nat.le_refl _⟩,⟨mb_ HB⟩⟩
  clear H';(try clear c3b0);(try clear c3b1);(try clear c3b2);obtain ⟨x5_1,rfl,HA,HK1,HB⟩:=hrel;obtain _|k1:=gk
  ·exact absurd HA.out (by simp [laws_eqPatternS.l0])
  have H:=HA.out;clear HA;simp only [laws_eqPatternS.l0] at H;by_cases c4:x5_1<(l0.length:Int)
  ·rw [if_pos c4] at H;have c4b0:=ct_ c4;clear c4;by_cases c5:0≤x5_1
   case neg=>
    rw [if_neg c5] at H;cases H
   rw [if_pos c5] at H;have c5b0:=ct_ c5;clear c5;by_cases c6:x5_1<(l1.length:Int)
   case neg=>
    rw [if_neg c6] at H;cases H
   rw [if_pos c6] at H;have c6b0:=ct_ c6;clear c6;obtain ⟨t552,A7,H⟩:=ob_ H;by_cases c8:t552=true
   ·subst c8;rw [if_pos rfl] at H;have H':=a_ H;clear H;try go_wp2
    replace HB:=a_ (below_drew1 HB.out);have p550:0≤(x5_1:Int):=md_
    have q550:x5_1<(l0.length:Int):=md_
    obtain ⟨ad550,A550_2,c550_2,e550,hx550_0,hx550_1,hx550_2,hl550_2,hi550_2⟩:=at_T101 HR0.out x5_1 p550 q550;have hw550_2:=hx550_2;have hw550_1:=hx550_1;have hw550_0:=hx550_0;cases e550;replace hx550_0:=mx_ HB hx550_0;replace hx550_1:=mx_ HB hx550_1;replace hx550_2:=mx_ HB hx550_2;have HR550_2:=a_ hi550_2;have HC550_2:=a_ hl550_2;clear hi550_2 hl550_2;replace p550:=eq_true p550;replace q550:=eq_true q550;have p551:0≤(x5_1:Int):=md_
    have q551:x5_1<(l1.length:Int):=md_
    obtain ⟨ad551,A551_2,c551_2,e551,hx551_0,hx551_1,hx551_2,hl551_2,hi551_2⟩:=at_T101 HR1.out x5_1 p551 q551;have hw551_2:=hx551_2;have hw551_1:=hx551_1;have hw551_0:=hx551_0;cases e551;replace hx551_0:=mx_ HB hx551_0;replace hx551_1:=mx_ HB hx551_1;replace hx551_2:=mx_ HB hx551_2;have HR551_2:=a_ hi551_2;have HC551_2:=a_ hl551_2;clear hi551_2 hl551_2;replace p551:=eq_true p551;replace q551:=eq_true q551;refine start_ (n:=10) (S:=fun w'=>w'.cell? (ad550.add ((x5_1).toNat*3))=some (.bool ((rd_T101 l0 x5_1).f0))∧w'.cell? ⟨(ad550.add ((x5_1).toNat*3)).block,(ad550.add ((x5_1).toNat*3)).off+1,none⟩=some (.string ((rd_T101 l0 x5_1).f1))∧w'.cell? ⟨(ad550.add ((x5_1).toNat*3)).block,(ad550.add ((x5_1).toNat*3)).off+2,none⟩=some (.slice A550_2 ((rd_T101 l0 x5_1).f2).length c550_2)∧w'.cell? (ad551.add ((x5_1).toNat*3))=some (.bool ((rd_T101 l1 x5_1).f0))∧w'.cell? ⟨(ad551.add ((x5_1).toNat*3)).block,(ad551.add ((x5_1).toNat*3)).off+1,none⟩=some (.string ((rd_T101 l1 x5_1).f1))∧w'.cell? ⟨(ad551.add ((x5_1).toNat*3)).block,(ad551.add ((x5_1).toNat*3)).off+2,none⟩=some (.slice A551_2 ((rd_T101 l1 x5_1).f2).length c551_2)) (ds:=[]) b2c9_0 (by kernel_rfl) rfl rfl ⟨(mx_ HB hw550_0),(mx_ HB hw550_1),(mx_ HB hw550_2),(mx_ HB hw551_0),(mx_ HB hw551_1),(mx_ HB hw551_2)⟩ (fun hHeld=>?_);refine with_tabW laws_eqPatternS.tab6 laws_eqPatternS.bits6 (fun HT_ HW_=>?_);generalize wr.drew=w9 at HB HR550_2 HR551_2 hx550_0 hx550_1 hx550_2 hx551_0 hx551_1 hx551_2 hHeld ⊢;refine pu_ 0 17 b2c9_1 (any_of HT_.out (by kernel_rfl)) ?_;refine pu_ 1 18 b2c9_2 (any_of HT_.out (by kernel_rfl)) ?_;refine pu_ 2 19 b2c9_3 (any_of HT_.out (by kernel_rfl)) ?_;refine pu_ 4 21 b2c9_4 (any_of HT_.out (by kernel_rfl)) ?_;refine pu_ 5 22 b2c9_5 (any_of HT_.out (by kernel_rfl)) ?_;refine pu_ 6 23 b2c9_6 (any_of HT_.out (by kernel_rfl)) ?_;refine tk_ 3 20 b2c9_7 (take_ofW HT_.out HW_.out (by kernel_rfl)) hHeld ?_;refine tk_ 7 24 b2c9_8 (take_ofW HT_.out HW_.out (by kernel_rfl)) hHeld ?_;refine one_ (i:=8) (N:=some 25) b2c9_9 rfl rfl (one_of HT_.out (by kernel_rfl)) (by decide) (fun K hK=>?_);refine goes_ Tryz.func82 (by kernel_rfl) rfl #[.agg #[.bool ((rd_T101 l0 x5_1).f0),.string ((rd_T101 l0 x5_1).f1),.slice A550_2 ((rd_T101 l0 x5_1).f2).length c550_2],.agg #[.bool ((rd_T101 l1 x5_1).f0),.string ((rd_T101 l1 x5_1).f1),.slice A551_2 ((rd_T101 l1 x5_1).f2).length c551_2]] (by rfl) rfl rfl mw_ ?_
    with_reducible refine (laws_eqPattern.calls k1 ((rd_T101 l0 x5_1).f0) ((rd_T101 l0 x5_1).f1) _ _ ((rd_T101 l0 x5_1).f2) ((rd_T101 l1 x5_1).f0) ((rd_T101 l1 x5_1).f1) _ _ ((rd_T101 l1 x5_1).f2) true _ ?side1 ?side2 ?side3 ?side4 A7.out).mono ?_
    (case side1=>exact mt_ HR550_2 HB)
    (case side2=>exact HC550_2.out)
    (case side3=>exact mt_ HR551_2 HB)
    (case side4=>exact HC551_2.out)
    rintro e w10 ⟨rfl,hb⟩;refine ⟨_,rfl,?_⟩;replace HB:=ms_ HB hb;(try clear hb);(try clear hb2);(try clear hk);(try clear hi);refine hK.out _ _ ⟨(mx_ HB hw550_0),(mx_ HB hw550_1),(mx_ HB hw550_2),(mx_ HB hw551_0),(mx_ HB hw551_1),(mx_ HB hw551_2)⟩ (fun hHeld=>?_);clear hK K;refine nm_ 25 ?_;refine pu_ 9 26 b2c9_10 (any_of HT_.out (by kernel_rfl)) ?_;refine done_ (done_of HT_.out (by kernel_rfl)) ?_;try go_wp2
    go_roundg k1
    case measure=>
     have:=HK1.out
     omega
    case rel=>exact ⟨(wrap64 (x5_1+1)),mq_,H',⟨by have:=HK1.out;omega⟩,⟨mb_ HB⟩⟩
   ·replace c8:=Bool.eq_false_iff.mpr c8;subst c8;rw [if_neg (show ¬(false=true) by decide)] at H;exact absurd (Option.some.inj H) (by decide)
  ·rw [if_neg c4] at H;have c4b0:=cf_ c4;clear c4;clear H;go_wp2;go_ret;exact ⟨me_,mb_ HB⟩
 ·rw [if_neg c3] at H;obtain ⟨c3b0,c3b1⟩:=bn_ c3;have c3b2:(l0.length==l1.length)=false:=by first|simpa using c3|(simp at c3 ⊢;omega)
  exact absurd (Option.some.inj H) (by decide)
def laws_eqExpr.f (a0_0:Int) (a0_1:Int) (a0_2:ByteArray) (a0_3:Int) (a0_4:Int) (a0_5:ByteArray) (a0_6:Int) (a0_7:Int) (a1_0:Int) (a1_1:Int) (a1_2:ByteArray) (a1_3:Int) (a1_4:Int) (a1_5:ByteArray) (a1_6:Int) (a1_7:Int):Option (Bool):=if a0_0=a1_0 then (if a0_1=a1_1 then (if a0_2.toList=a1_2.toList then ((laws_eqValue.f a0_3 a0_4 a0_5 a1_3 a1_4 a1_5).bind fun t555=>(if t555=true then (if a0_6=a1_6 then (if a0_7=a1_7 then (some true) else (some false)) else (some false)) else (some false))) else (some false)) else (some false)) else (some false)
set_option maxHeartbeats 8000000 in
set_option maxRecDepth 100000 in
theorem laws_eqExpr.calls (a0_0:Int) (a0_1:Int) (a0_2:ByteArray) (a0_3:Int) (a0_4:Int) (a0_5:ByteArray) (a0_6:Int) (a0_7:Int) (a1_0:Int) (a1_1:Int) (a1_2:ByteArray) (a1_3:Int) (a1_4:Int) (a1_5:ByteArray) (a1_6:Int) (a1_7:Int) (r:Bool) (w:World) (h:laws_eqExpr.f a0_0 a0_1 a0_2 a0_3 a0_4 a0_5 a0_6 a0_7 a1_0 a1_1 a1_2 a1_3 a1_4 a1_5 a1_6 a1_7=some r) (hT_:r=true:=by first|rfl|assumption):
  Calls Tryz.prog 83 #[.agg #[.int .i64 a0_0,.int .u8 a0_1,.string a0_2,.int .i64 a0_3,.int .i64 a0_4,.string a0_5,.int .i64 a0_6,.int .i64 a0_7],.agg #[.int .i64 a1_0,.int .u8 a1_1,.string a1_2,.int .i64 a1_3,.int .i64 a1_4,.string a1_5,.int .i64 a1_6,.int .i64 a1_7]] w fun e w'=>e=.returned (.bool r)∧Below w.heap.size w w':=by
 subst hT_;have hu106:=Tryz.underlying106;have hu104:=Tryz.underlying104;have HB:=a_ (Below.refl w.heap.size w);have H:=h;unfold laws_eqExpr.f at H
 clear h;by_cases c3:a0_0=a1_0
 case neg=>
  rw [if_neg c3] at H;obtain ⟨c3b0,c3b1⟩:=bn_ c3;exact absurd (Option.some.inj H) (by decide)
 rw [if_pos c3] at H;obtain ⟨c3b0,c3b1⟩:=bq_ c3;clear c3;by_cases c4:a0_1=a1_1
 case neg=>
  rw [if_neg c4] at H;obtain ⟨c4b0,c4b1⟩:=bn_ c4;exact absurd (Option.some.inj H) (by decide)
 rw [if_pos c4] at H;obtain ⟨c4b0,c4b1⟩:=bq_ c4;clear c4;by_cases c5:a0_2.toList=a1_2.toList
 case neg=>
  rw [if_neg c5] at H;obtain ⟨c5b0,c5b1⟩:=bn_ c5;exact absurd (Option.some.inj H) (by decide)
 rw [if_pos c5] at H;obtain ⟨c5b0,c5b1⟩:=bq_ c5;clear c5;obtain ⟨t555,A6,H⟩:=ob_ H;by_cases c7:t555=true
 ·subst c7;rw [if_pos rfl] at H;by_cases c8:a0_6=a1_6
  case neg=>
   rw [if_neg c8] at H;obtain ⟨c8b0,c8b1⟩:=bn_ c8;exact absurd (Option.some.inj H) (by decide)
  rw [if_pos c8] at H;obtain ⟨c8b0,c8b1⟩:=bq_ c8;clear c8;by_cases c9:a0_7=a1_7
  case neg=>
   rw [if_neg c9] at H;obtain ⟨c9b0,c9b1⟩:=bn_ c9;exact absurd (Option.some.inj H) (by decide)
  rw [if_pos c9] at H;obtain ⟨c9b0,c9b1⟩:=bq_ c9;clear c9;clear H;go_enter Tryz.func83,Tryz.ntmps83;go_wp2_with (first|((with_reducible refine gate_dst (N:=2) rfl ?_);refine bh_ 2 #[.int .i64 a0_0,.int .u8 a0_1,.string a0_2,.int .i64 a0_3,.int .i64 a0_4,.string a0_5,.int .i64 a0_6,.int .i64 a0_7] 106 HB ?_;intro gb553 hg wx BK553 GE553 hb;replace HB:=ms_ HB hb;clear hb hg)|((with_reducible refine gate_dst (N:=3) rfl ?_);refine bh_ 3 #[.int .i64 a1_0,.int .u8 a1_1,.string a1_2,.int .i64 a1_3,.int .i64 a1_4,.string a1_5,.int .i64 a1_6,.int .i64 a1_7] 106 HB ?_;intro gb554 hg wx BK554 GE554 hb;obtain ⟨NB553_554,NB554_553⟩:=mn_ BK553 hg;replace BK553:=mk_ BK553 hb;replace HB:=ms_ HB hb;clear hb hg;have nNB553_554:=NB553_554.out;have nNB554_553:=NB554_553.out;replace hz553:=cz8 BK553;replace hz554:=cz8 BK554)|((with_reducible refine gate_callee (f:=103) rfl ?_);refine goesL_ (some 24) rfl rfl Tryz.func103 (by kernel_rfl) rfl #[.agg #[.int .i64 a0_3,.int .i64 a0_4,.string a0_5],.agg #[.int .i64 a1_3,.int .i64 a1_4,.string a1_5]] rfl mw_ ?_;(with_reducible refine (laws_eqValue.calls a0_3 a0_4 a0_5 a1_3 a1_4 a1_5 true _ A6.out).mono ?_);rintro e wx ⟨rfl,hb⟩;refine ⟨_,rfl,?_⟩;replace BK553:=mk_ BK553 hb;replace BK554:=mk_ BK554 hb;replace HB:=ms_ HB hb;(try clear hb);replace hz553:=cz8 BK553;replace hz554:=cz8 BK554));go_ret;exact ⟨me_,mb_ HB⟩
 ·replace c7:=Bool.eq_false_iff.mpr c7;subst c7;rw [if_neg (show ¬(false=true) by decide)] at H;exact absurd (Option.some.inj H) (by decide)
def laws_eqExprS.l0:Nat→List (S106)→List (S106)→Int→Option (Bool)
 | 0,_,_,_=>none
 | k+1,x0,x1,x5=>if x5<(x0.length:Int) then (if 0≤x5 then (if x5<(x1.length:Int) then ((laws_eqExpr.f ((rd_T106 x0 x5).f0) ((rd_T106 x0 x5).f1) ((rd_T106 x0 x5).f2) ((rd_T106 x0 x5).f3.f0) ((rd_T106 x0 x5).f3.f1) ((rd_T106 x0 x5).f3.f2) ((rd_T106 x0 x5).f4) ((rd_T106 x0 x5).f5) ((rd_T106 x1 x5).f0) ((rd_T106 x1 x5).f1) ((rd_T106 x1 x5).f2) ((rd_T106 x1 x5).f3.f0) ((rd_T106 x1 x5).f3.f1) ((rd_T106 x1 x5).f3.f2) ((rd_T106 x1 x5).f4) ((rd_T106 x1 x5).f5)).bind fun t558=>(if t558=true then (laws_eqExprS.l0 k x0 x1 (wrap64 (x5+1))) else (some false))) else (none)) else (none)) else (some true)
def laws_eqExprS.f (k:Nat) (l0:List (S106)) (l1:List (S106)):Option (Bool):=if (l0.length:Int)=(l1.length:Int) then (laws_eqExprS.l0 k l0 l1 0) else (some false)
theorem laws_eqExprS.mono_l:∀k,(∀y0 y1 y2,LeO (laws_eqExprS.l0 k y0 y1 y2) (laws_eqExprS.l0 (k+1) y0 y1 y2))
 | 0=>fun _ _ _ r h=>by simp [laws_eqExprS.l0] at h
 | k+1=>by
  have ih0:=laws_eqExprS.mono_l k
  ·intro y0 y1 y2;unfold laws_eqExprS.l0
   repeat' with_reducible first|apply ih0|apply LeO.refl|apply LeO.none|refine LeO.ite ?_ ?_|refine LeO.bind ?_ (fun _=>?_)
theorem laws_eqExprS.mono:∀a0 a1 k,LeO (laws_eqExprS.f k a0 a1) (laws_eqExprS.f (k+1) a0 a1):=by
 intro a0 a1 k;have ih0:=laws_eqExprS.mono_l k;unfold laws_eqExprS.f
 repeat' with_reducible first|apply ih0|apply LeO.refl|apply LeO.none|refine LeO.ite ?_ ?_|refine LeO.bind ?_ (fun _=>?_)
def laws_eqExprS.T6:Bool×List (List Nat×List Nat):=(true,[([],[]),([],[]),([0,1],[0,1]),([2],[2]),([],[]),([],[]),([4,5],[4,5]),([6],[6]),([3,7],[3,7]),([8],[8])])
def laws_eqExprS.B6:List Nat:=[0,0,3,7,0,0,48,112,255,511]
theorem laws_eqExprS.tab6:rtab .any (opsOf Tryz.f60 6)=laws_eqExprS.T6:=by kernel_rfl
theorem laws_eqExprS.bits6:waitsOk laws_eqExprS.T6.2 laws_eqExprS.B6=true:=by kernel_rfl
set_option maxHeartbeats 8000000 in
set_option maxRecDepth 100000 in
theorem laws_eqExprS.calls (k:Nat) (A0:Option Addr) (c0:Nat) (l0:List (S106)) (A1:Option Addr) (c1:Nat) (l1:List (S106)) (r:Bool) (w:World) (hr0:Kd.C k106 w A0 l0.length l0) (hc0:l0.length≤c0) (hr1:Kd.C k106 w A1 l1.length l1) (hc1:l1.length≤c1) (h:laws_eqExprS.f k l0 l1=some r) (hT_:r=true:=by first|rfl|assumption):
  Calls Tryz.prog 60 #[.slice A0 l0.length c0,.slice A1 l1.length c1] w fun e w'=>e=.returned (.bool r)∧Below w.heap.size w w':=by
 subst hT_;have hu106:=Tryz.underlying106;have HR0:=a_ hr0;have HC0:=a_ hc0;clear hr0 hc0;have HR1:=a_ hr1;have HC1:=a_ hc1;clear hr1 hc1;have HB:=a_ (Below.refl w.heap.size w);have H:(if (l0.length:Int)=(l1.length:Int) then (laws_eqExprS.l0 k l0 l1 0) else (some false))=some true:=h
 clear h;by_cases c3:(l0.length:Int)=(l1.length:Int)
 ·rw [if_pos c3] at H;obtain ⟨c3b0,c3b1⟩:=bq_ c3;have c3b2:(l0.length==l1.length)=true:=by first|simpa using c3|(simp at c3 ⊢;omega)
  clear c3;have H':=a_ H;clear H;go_enter Tryz.func60,Tryz.ntmps60;go_wp2;go_loopg [5] k (fun kq v5 w'=>∃(x5_1:Int),v5=.int .i64 x5_1∧Aside0 (laws_eqExprS.l0 kq l0 l1 x5_1=some true)∧Aside0 (kq≤k)∧Aside0 (Below w.heap.size w w'))
  case atStart=>exact ⟨(0),mq_,H',⟨Nat.le_refl _⟩,⟨mb_ HB⟩⟩
  clear H';(try clear c3b0);(try clear c3b1);(try clear c3b2);obtain ⟨x5_1,rfl,HA,HK1,HB⟩:=hrel;obtain _|k1:=gk
  ·exact absurd HA.out (by simp [laws_eqExprS.l0])
  have H:=HA.out;clear HA;simp only [laws_eqExprS.l0] at H;by_cases c4:x5_1<(l0.length:Int)
  ·rw [if_pos c4] at H;have c4b0:=ct_ c4;clear c4;by_cases c5:0≤x5_1
   case neg=>
    rw [if_neg c5] at H;cases H
   rw [if_pos c5] at H;have c5b0:=ct_ c5;clear c5;by_cases c6:x5_1<(l1.length:Int)
   case neg=>
    rw [if_neg c6] at H;cases H
   rw [if_pos c6] at H;have c6b0:=ct_ c6;clear c6;obtain ⟨t558,A7,H⟩:=ob_ H;by_cases c8:t558=true
   ·subst c8;rw [if_pos rfl] at H;have H':=a_ H;clear H;try go_wp2
    replace HB:=a_ (below_drew1 HB.out);have p556:0≤(x5_1:Int):=md_
    have q556:x5_1<(l0.length:Int):=md_
    obtain ⟨ad556,e556,hx556_0,hx556_1,hx556_2,hx556_3,hx556_4,hx556_5,hx556_6,hx556_7⟩:=at_T106 HR0.out x5_1 p556 q556;have hw556_7:=hx556_7;have hw556_6:=hx556_6;have hw556_5:=hx556_5;have hw556_4:=hx556_4;have hw556_3:=hx556_3;have hw556_2:=hx556_2;have hw556_1:=hx556_1;have hw556_0:=hx556_0;cases e556;replace hx556_0:=mx_ HB hx556_0;replace hx556_1:=mx_ HB hx556_1;replace hx556_2:=mx_ HB hx556_2;replace hx556_3:=mx_ HB hx556_3;replace hx556_4:=mx_ HB hx556_4;replace hx556_5:=mx_ HB hx556_5;replace hx556_6:=mx_ HB hx556_6;replace hx556_7:=mx_ HB hx556_7;replace p556:=eq_true p556;replace q556:=eq_true q556;have p557:0≤(x5_1:Int):=md_
    have q557:x5_1<(l1.length:Int):=md_
    obtain ⟨ad557,e557,hx557_0,hx557_1,hx557_2,hx557_3,hx557_4,hx557_5,hx557_6,hx557_7⟩:=at_T106 HR1.out x5_1 p557 q557;have hw557_7:=hx557_7;have hw557_6:=hx557_6;have hw557_5:=hx557_5;have hw557_4:=hx557_4;have hw557_3:=hx557_3;have hw557_2:=hx557_2;have hw557_1:=hx557_1;have hw557_0:=hx557_0;cases e557;replace hx557_0:=mx_ HB hx557_0;replace hx557_1:=mx_ HB hx557_1;replace hx557_2:=mx_ HB hx557_2;replace hx557_3:=mx_ HB hx557_3;replace hx557_4:=mx_ HB hx557_4;replace hx557_5:=mx_ HB hx557_5;replace hx557_6:=mx_ HB hx557_6;replace hx557_7:=mx_ HB hx557_7;replace p557:=eq_true p557;replace q557:=eq_true q557;refine start_ (n:=10) (S:=fun w'=>w'.cell? (ad556.add ((x5_1).toNat*8))=some (.int .i64 ((rd_T106 l0 x5_1).f0))∧w'.cell? ⟨(ad556.add ((x5_1).toNat*8)).block,(ad556.add ((x5_1).toNat*8)).off+1,none⟩=some (.int .u8 ((rd_T106 l0 x5_1).f1))∧w'.cell? ⟨(ad556.add ((x5_1).toNat*8)).block,(ad556.add ((x5_1).toNat*8)).off+2,none⟩=some (.string ((rd_T106 l0 x5_1).f2))∧w'.cell? ⟨(ad556.add ((x5_1).toNat*8)).block,(ad556.add ((x5_1).toNat*8)).off+3,none⟩=some (.int .i64 ((rd_T106 l0 x5_1).f3.f0))∧w'.cell? ⟨(ad556.add ((x5_1).toNat*8)).block,(ad556.add ((x5_1).toNat*8)).off+4,none⟩=some (.int .i64 ((rd_T106 l0 x5_1).f3.f1))∧w'.cell? ⟨(ad556.add ((x5_1).toNat*8)).block,(ad556.add ((x5_1).toNat*8)).off+5,none⟩=some (.string ((rd_T106 l0 x5_1).f3.f2))∧w'.cell? ⟨(ad556.add ((x5_1).toNat*8)).block,(ad556.add ((x5_1).toNat*8)).off+6,none⟩=some (.int .i64 ((rd_T106 l0 x5_1).f4))∧w'.cell? ⟨(ad556.add ((x5_1).toNat*8)).block,(ad556.add ((x5_1).toNat*8)).off+7,none⟩=some (.int .i64 ((rd_T106 l0 x5_1).f5))∧w'.cell? (ad557.add ((x5_1).toNat*8))=some (.int .i64 ((rd_T106 l1 x5_1).f0))∧w'.cell? ⟨(ad557.add ((x5_1).toNat*8)).block,(ad557.add ((x5_1).toNat*8)).off+1,none⟩=some (.int .u8 ((rd_T106 l1 x5_1).f1))∧w'.cell? ⟨(ad557.add ((x5_1).toNat*8)).block,(ad557.add ((x5_1).toNat*8)).off+2,none⟩=some (.string ((rd_T106 l1 x5_1).f2))∧w'.cell? ⟨(ad557.add ((x5_1).toNat*8)).block,(ad557.add ((x5_1).toNat*8)).off+3,none⟩=some (.int .i64 ((rd_T106 l1 x5_1).f3.f0))∧w'.cell? ⟨(ad557.add ((x5_1).toNat*8)).block,(ad557.add ((x5_1).toNat*8)).off+4,none⟩=some (.int .i64 ((rd_T106 l1 x5_1).f3.f1))∧w'.cell? ⟨(ad557.add ((x5_1).toNat*8)).block,(ad557.add ((x5_1).toNat*8)).off+5,none⟩=some (.string ((rd_T106 l1 x5_1).f3.f2))∧w'.cell? ⟨(ad557.add ((x5_1).toNat*8)).block,(ad557.add ((x5_1).toNat*8)).off+6,none⟩=some (.int .i64 ((rd_T106 l1 x5_1).f4))∧w'.cell? ⟨(ad557.add ((x5_1).toNat*8)).block,(ad557.add ((x5_1).toNat*8)).off+7,none⟩=some (.int .i64 ((rd_T106 l1 x5_1).f5))) (ds:=[]) b2c9_0 (by kernel_rfl) rfl rfl ⟨(mx_ HB hw556_0),(mx_ HB hw556_1),(mx_ HB hw556_2),(mx_ HB hw556_3),(mx_ HB hw556_4),(mx_ HB hw556_5),(mx_ HB hw556_6),(mx_ HB hw556_7),(mx_ HB hw557_0),(mx_ HB hw557_1),(mx_ HB hw557_2),(mx_ HB hw557_3),(mx_ HB hw557_4),(mx_ HB hw557_5),(mx_ HB hw557_6),(mx_ HB hw557_7)⟩ (fun hHeld=>?_);refine with_tabW laws_eqExprS.tab6 laws_eqExprS.bits6 (fun HT_ HW_=>?_)
    generalize wr.drew=w9 at HB hx556_0 hx556_1 hx556_2 hx556_3 hx556_4 hx556_5 hx556_6 hx556_7 hx557_0 hx557_1 hx557_2 hx557_3 hx557_4 hx557_5 hx557_6 hx557_7 hHeld ⊢;refine pu_ 0 17 b2c9_1 (any_of HT_.out (by kernel_rfl)) ?_;refine pu_ 1 18 b2c9_2 (any_of HT_.out (by kernel_rfl)) ?_;refine pu_ 2 19 b2c9_3 (any_of HT_.out (by kernel_rfl)) ?_;refine pu_ 4 21 b2c9_4 (any_of HT_.out (by kernel_rfl)) ?_;refine pu_ 5 22 b2c9_5 (any_of HT_.out (by kernel_rfl)) ?_;refine pu_ 6 23 b2c9_6 (any_of HT_.out (by kernel_rfl)) ?_;refine tk_ 3 20 b2c9_7 (take_ofW HT_.out HW_.out (by kernel_rfl)) hHeld ?_;refine tk_ 7 24 b2c9_8 (take_ofW HT_.out HW_.out (by kernel_rfl)) hHeld ?_;refine one_ (i:=8) (N:=some 25) b2c9_9 rfl rfl (one_of HT_.out (by kernel_rfl)) (by decide) (fun K hK=>?_);refine goes_ Tryz.func83 (by kernel_rfl) rfl #[.agg #[.int .i64 ((rd_T106 l0 x5_1).f0),.int .u8 ((rd_T106 l0 x5_1).f1),.string ((rd_T106 l0 x5_1).f2),.int .i64 ((rd_T106 l0 x5_1).f3.f0),.int .i64 ((rd_T106 l0 x5_1).f3.f1),.string ((rd_T106 l0 x5_1).f3.f2),.int .i64 ((rd_T106 l0 x5_1).f4),.int .i64 ((rd_T106 l0 x5_1).f5)],.agg #[.int .i64 ((rd_T106 l1 x5_1).f0),.int .u8 ((rd_T106 l1 x5_1).f1),.string ((rd_T106 l1 x5_1).f2),.int .i64 ((rd_T106 l1 x5_1).f3.f0),.int .i64 ((rd_T106 l1 x5_1).f3.f1),.string ((rd_T106 l1 x5_1).f3.f2),.int .i64 ((rd_T106 l1 x5_1).f4),.int .i64 ((rd_T106 l1 x5_1).f5)]] (by rfl) rfl rfl mw_ ?_;with_reducible refine (laws_eqExpr.calls ((rd_T106 l0 x5_1).f0) ((rd_T106 l0 x5_1).f1) ((rd_T106 l0 x5_1).f2) ((rd_T106 l0 x5_1).f3.f0) ((rd_T106 l0 x5_1).f3.f1) ((rd_T106 l0 x5_1).f3.f2) ((rd_T106 l0 x5_1).f4) ((rd_T106 l0 x5_1).f5) ((rd_T106 l1 x5_1).f0) ((rd_T106 l1 x5_1).f1) ((rd_T106 l1 x5_1).f2) ((rd_T106 l1 x5_1).f3.f0) ((rd_T106 l1 x5_1).f3.f1) ((rd_T106 l1 x5_1).f3.f2) ((rd_T106 l1 x5_1).f4) ((rd_T106 l1 x5_1).f5) true _ A7.out).mono ?_
    rintro e w10 ⟨rfl,hb⟩;refine ⟨_,rfl,?_⟩;replace HB:=ms_ HB hb;(try clear hb);(try clear hb2);(try clear hk);(try clear hi);refine hK.out _ _ ⟨(mx_ HB hw556_0),(mx_ HB hw556_1),(mx_ HB hw556_2),(mx_ HB hw556_3),(mx_ HB hw556_4),(mx_ HB hw556_5),(mx_ HB hw556_6),(mx_ HB hw556_7),(mx_ HB hw557_0),(mx_ HB hw557_1),(mx_ HB hw557_2),(mx_ HB hw557_3),(mx_ HB hw557_4),(mx_ HB hw557_5),(mx_ HB hw557_6),(mx_ HB hw557_7)⟩ (fun hHeld=>?_);clear hK K;refine nm_ 25 ?_;refine pu_ 9 26 b2c9_10 (any_of HT_.out (by kernel_rfl)) ?_;refine done_ (done_of HT_.out (by kernel_rfl)) ?_;try go_wp2
    go_roundg k1
    case measure=>
     have:=HK1.out
     omega
    case rel=>exact ⟨(wrap64 (x5_1+1)),mq_,H',⟨by have:=HK1.out;omega⟩,⟨mb_ HB⟩⟩
   ·replace c8:=Bool.eq_false_iff.mpr c8;subst c8;rw [if_neg (show ¬(false=true) by decide)] at H;exact absurd (Option.some.inj H) (by decide)
  ·rw [if_neg c4] at H;have c4b0:=cf_ c4;clear c4;clear H;go_wp2;go_ret;exact ⟨me_,mb_ HB⟩
 ·rw [if_neg c3] at H;obtain ⟨c3b0,c3b1⟩:=bn_ c3;have c3b2:(l0.length==l1.length)=false:=by first|simpa using c3|(simp at c3 ⊢;omega)
  exact absurd (Option.some.inj H) (by decide)
end Go.Proofs.YtejjlkbbnhpbdaaGreat.P
