/- The row of the law FnExactAlphaNet: for every input the call returns true, and each argument reads behind it as it read before; no condition of ours. -/
import Derived.Test.YtahambloheoebaaGreatDoorProg
import Derived.Below
import Derived.Deep.Draws
import Derived.Deep.AppendLies
import Derived.Maps.AppendAt
import Derived.OwnWalk
import Derived.Laws.BytesArg
import Derived.Laws.MakeOwn
import Derived.Laws.OwnMore
import Derived.Deep.OwnRows
import Derived.Tactics
import Derived.Lib.ConvBytes
import Derived.Laws.Slices
import Derived.WalkKit
import Derived.KernelRfl
import Derived.RowKit3
import Derived.Deep.LoopGhost
import Derived.Deep.QuietTactic
import Derived.BigQuiet
import Derived.WideLaws
import Derived.Deep.DeepCutAuto
import Derived.Deep.CutBlock
import Derived.Deep.RegionHeld3
import Derived.Laws.Rows
import Derived.Lib.AppendStr
import Derived.ArgAppend
import Derived.Laws.IdiomCopy
import Derived.OrdersHeld
import Derived.Laws.BitsLemmas
import Derived.RowKit
import Derived.Laws.RangeString
import Derived.Lib.OthersKept
import Derived.Lib.DecodeN
import Derived.Lib.TrimU
import Derived.IntWalk
import Derived.OneCell
import Derived.Maps.RangeWalk
import Derived.Laws.CopyRow
import Derived.Laws.CopyOwn
import Derived.RangeFuncBox
import Derived.Maps.OwnSet
import Derived.Maps.Views
import Derived.Carry
import Derived.Shelf.Abstract
import Derived.Test.YtahambloheoebaaGreatDoorQAn3
set_option linter.unusedVariables false
set_option linter.unusedSimpArgs false
namespace Go.Proofs.YtahambloheoebaaGreatDoor.P
open Go.Proofs.YtahambloheoebaaGreatDoorX
open Go.RowKit Go.Proofs.YtahambloheoebaaGreatDoorW.PrintWords Go.Proofs.YtahambloheoebaaGreatDoorW.PrintLast Go.Proofs.YtahambloheoebaaGreatDoorW.PrintMore
attribute [local go_sem] ww_ wx_ max_two min_two wc_ wb_ wu_ wv_
def errW:Option Int→Value
 | none=>.nilIface
 | some c=>.iface 0 (.int .i64 c)
theorem errW_none:errW none=.nilIface:=rfl
theorem errW_some (c:Int):errW (some c)=.iface 0 (.int .i64 c):=rfl
theorem info3:(Tryz.prog.info? 3).map (fun i=>(i.zero,i.size,i.bytes))=some (some (.int .i64 0),1,8):=by kernel_rfl
theorem info9:(Tryz.prog.info? 9).map (fun i=>(i.zero,i.size,i.bytes))=some (some (.string ⟨#[]⟩),1,16):=by kernel_rfl
theorem info39:(Tryz.prog.info? 39).map (fun i=>(i.zero,i.size,i.bytes))=some (some (.agg #[(.string ⟨#[]⟩),(.int .i64 0),(.slice none 0 0),(.slice none 0 0),(.slice none 0 0)]),5,96):=by kernel_rfl
theorem info42:(Tryz.prog.info? 42).map (fun i=>(i.zero,i.size,i.bytes))=some (some (.agg #[(.bool false),(.string ⟨#[]⟩),(.slice none 0 0)]),3,48):=by kernel_rfl
theorem info43:(Tryz.prog.info? 43).map (fun i=>(i.zero,i.size,i.bytes))=some (some (.slice none 0 0),1,24):=by kernel_rfl
theorem info50:(Tryz.prog.info? 50).map (fun i=>(i.zero,i.size,i.bytes))=some (some (.agg #[(.string ⟨#[]⟩),(.int .i64 0),(.slice none 0 0)]),3,48):=by kernel_rfl
theorem info82:(Tryz.prog.info? 82).map (fun i=>(i.zero,i.size,i.bytes))=some (some (.agg #[(.int .i64 0),(.int .i64 0),(.int .i64 0),(.int .i64 0),(.int .i64 0),(.string ⟨#[]⟩)]),6,56):=by kernel_rfl
theorem info86:(Tryz.prog.info? 86).map (fun i=>(i.zero,i.size,i.bytes))=some (some (.agg #[(.int .i64 0),(.int .i64 0),(.string ⟨#[]⟩),(.int .i64 0),(.int .i64 0),(.string ⟨#[]⟩)]),6,64):=by kernel_rfl
theorem info98:(Tryz.prog.info? 98).map (fun i=>(i.zero,i.size,i.bytes))=some (some (.agg #[(.int .i64 0),(.int .i64 0),(.string ⟨#[]⟩),(.slice none 0 0)]),4,56):=by kernel_rfl
theorem info161:(Tryz.prog.info? 161).map (fun i=>(i.zero,i.size,i.bytes))=some (some (.agg #[(.int .i64 0),(.int .u8 0),(.string ⟨#[]⟩),(.int .i64 0),(.int .i64 0),(.string ⟨#[]⟩),(.int .i64 0),(.int .i64 0)]),8,80):=by kernel_rfl
structure S80 where
 f0:Int
 f1:Int
 f2:ByteArray
def z80:S80:=⟨(0:Int),(0:Int),(⟨#[]⟩:ByteArray)⟩
def k80:Kd S80:=Kd.iso (Kd.pair (Kd.int .i64) (Kd.pair (Kd.int .i64) Kd.string)) (fun x:S80=>(x.f0,x.f1,x.f2))
theorem k80_open {w:World} {x:S80} {cs:List Value} (h:k80.K w x cs):cs=[.int .i64 x.f0,.int .i64 x.f1,.string x.f2]:=by
 obtain ⟨_,_,rfl,rfl,⟨_,_,rfl,rfl,rfl⟩⟩:=h;exact rfl
theorem k80_openM {w:World} {base:Nat} {ok:Nat→Prop} {x:S80} {cs:List Value} (h:k80.M w base ok x cs):cs=[.int .i64 x.f0,.int .i64 x.f1,.string x.f2]:=by
 obtain ⟨_,_,rfl,rfl,⟨_,_,rfl,rfl,rfl⟩⟩:=h;exact rfl
theorem k80_mkM (w:World) (base:Nat) (ok:Nat→Prop) (x:S80)  : k80.M w base ok x [.int .i64 x.f0,.int .i64 x.f1,.string x.f2]:=⟨[.int .i64 x.f0],[.int .i64 x.f1,.string x.f2],rfl,rfl,⟨[.int .i64 x.f1],[.string x.f2],rfl,rfl,rfl⟩⟩
structure S86 where
 f0:Int
 f1:Int
 f2:ByteArray
 f3:S80
def z86:S86:=⟨(0:Int),(0:Int),(⟨#[]⟩:ByteArray),z80⟩
def k86:Kd S86:=Kd.iso (Kd.pair (Kd.int .i64) (Kd.pair (Kd.int .i64) (Kd.pair Kd.string k80))) (fun x:S86=>(x.f0,x.f1,x.f2,x.f3))
theorem k86_open {w:World} {x:S86} {cs:List Value} (h:k86.K w x cs):cs=[.int .i64 x.f0,.int .i64 x.f1,.string x.f2,.int .i64 x.f3.f0,.int .i64 x.f3.f1,.string x.f3.f2]:=by
 obtain ⟨_,_,rfl,rfl,⟨_,_,rfl,rfl,⟨_,_,rfl,rfl,s3⟩⟩⟩:=h;obtain rfl:=k80_open s3;exact rfl
theorem k86_openM {w:World} {base:Nat} {ok:Nat→Prop} {x:S86} {cs:List Value} (h:k86.M w base ok x cs):cs=[.int .i64 x.f0,.int .i64 x.f1,.string x.f2,.int .i64 x.f3.f0,.int .i64 x.f3.f1,.string x.f3.f2]:=by
 obtain ⟨_,_,rfl,rfl,⟨_,_,rfl,rfl,⟨_,_,rfl,rfl,s3⟩⟩⟩:=h;obtain rfl:=k80_openM s3;exact rfl
theorem k86_mkM (w:World) (base:Nat) (ok:Nat→Prop) (x:S86)  : k86.M w base ok x [.int .i64 x.f0,.int .i64 x.f1,.string x.f2,.int .i64 x.f3.f0,.int .i64 x.f3.f1,.string x.f3.f2]:=⟨[.int .i64 x.f0],[.int .i64 x.f1,.string x.f2,.int .i64 x.f3.f0,.int .i64 x.f3.f1,.string x.f3.f2],rfl,rfl,⟨[.int .i64 x.f1],[.string x.f2,.int .i64 x.f3.f0,.int .i64 x.f3.f1,.string x.f3.f2],rfl,rfl,⟨[.string x.f2],[.int .i64 x.f3.f0,.int .i64 x.f3.f1,.string x.f3.f2],rfl,rfl,(k80_mkM w base ok x.f3 )⟩⟩⟩
def z6_ (xs:List S86) (i:Int):S86:=xs.getD i.toNat z86
theorem at_T86 {w:World} {A:Option Addr} {n:Nat} {xs:List S86} (h:Kd.C k86 w A n xs) (i:Int) (h0:0≤i) (h1:i<n):∃ad ,A=some ad∧w.cell? (ad.add (i.toNat*6))=some (.int .i64 (z6_ xs i).f0)∧w.cell? ⟨(ad.add (i.toNat*6)).block,(ad.add (i.toNat*6)).off+1,none⟩=some (.int .i64 (z6_ xs i).f1)∧w.cell? ⟨(ad.add (i.toNat*6)).block,(ad.add (i.toNat*6)).off+2,none⟩=some (.string (z6_ xs i).f2)∧w.cell? ⟨(ad.add (i.toNat*6)).block,(ad.add (i.toNat*6)).off+3,none⟩=some (.int .i64 (z6_ xs i).f3.f0)∧w.cell? ⟨(ad.add (i.toNat*6)).block,(ad.add (i.toNat*6)).off+4,none⟩=some (.int .i64 (z6_ xs i).f3.f1)∧w.cell? ⟨(ad.add (i.toNat*6)).block,(ad.add (i.toNat*6)).off+5,none⟩=some (.string (z6_ xs i).f3.f2):=by
 obtain ⟨ad,c,e,_,hK,hc0⟩:=Kd.C_get h z86 i h0 h1;have hc:∀j u,c[j]?=some u→w.cell? (ad.add (i.toNat*6+j))=some u:=hc0
 obtain rfl:=k86_open hK;exact ⟨ad,e,hc 0 _ rfl,by rw [←yq_ _ _ 1 (by omega)];exact hc 1 _ rfl,by rw [←yq_ _ _ 2 (by omega)];exact hc 2 _ rfl,by rw [←yq_ _ _ 3 (by omega)];exact hc 3 _ rfl,by rw [←yq_ _ _ 4 (by omega)];exact hc 4 _ rfl,by rw [←yq_ _ _ 5 (by omega)];exact hc 5 _ rfl⟩
structure S42 where
 f0:Bool
 f1:ByteArray
 f2:(List S86)
def z42:S42:=⟨false,(⟨#[]⟩:ByteArray),([]:List S86)⟩
def k42:Kd S42:=Kd.iso (Kd.pair Kd.bool (Kd.pair Kd.string (Kd.slice 86 k86))) (fun x:S42=>(x.f0,x.f1,x.f2))
theorem k42_open {w:World} {x:S42} {cs:List Value} (h:k42.K w x cs):∃A2 c2,cs=[.bool x.f0,.string x.f1,.slice A2 x.f2.length c2]∧x.f2.length≤c2∧k86.C w A2 x.f2.length x.f2:=by
 obtain ⟨_,_,rfl,rfl,⟨_,_,rfl,rfl,⟨A2,c2,rfl,l2,g2⟩⟩⟩:=h;exact ⟨A2,c2,rfl,l2,g2⟩
theorem k42_openM {w:World} {base:Nat} {ok:Nat→Prop} {x:S42} {cs:List Value} (h:k42.M w base ok x cs):∃v2,cs=[.bool x.f0,.string x.f1,v2]∧k86.R 86 w base ok v2 x.f2:=by
 obtain ⟨_,_,rfl,rfl,⟨_,_,rfl,rfl,⟨v2,rfl,g2⟩⟩⟩:=h;exact ⟨v2,rfl,g2⟩
theorem k42_mkM (w:World) (base:Nat) (ok:Nat→Prop) (x:S42) {v2:Value} (g2:k86.R 86 w base ok v2 x.f2):k42.M w base ok x [.bool x.f0,.string x.f1,v2]:=⟨[.bool x.f0],[.string x.f1,v2],rfl,rfl,⟨[.string x.f1],[v2],rfl,rfl,⟨v2,rfl,g2⟩⟩⟩
def zq_ (xs:List S42) (i:Int):S42:=xs.getD i.toNat z42
theorem at_T42 {w:World} {A:Option Addr} {n:Nat} {xs:List S42} (h:Kd.C k42 w A n xs) (i:Int) (h0:0≤i) (h1:i<n):∃ad A2 c2,A=some ad∧w.cell? (ad.add (i.toNat*3))=some (.bool (zq_ xs i).f0)∧w.cell? ⟨(ad.add (i.toNat*3)).block,(ad.add (i.toNat*3)).off+1,none⟩=some (.string (zq_ xs i).f1)∧w.cell? ⟨(ad.add (i.toNat*3)).block,(ad.add (i.toNat*3)).off+2,none⟩=some (.slice A2 (zq_ xs i).f2.length c2)∧(zq_ xs i).f2.length≤c2∧k86.C w A2 (zq_ xs i).f2.length (zq_ xs i).f2:=by
 obtain ⟨ad,c,e,_,hK,hc0⟩:=Kd.C_get h z42 i h0 h1;have hc:∀j u,c[j]?=some u→w.cell? (ad.add (i.toNat*3+j))=some u:=hc0
 obtain ⟨A2,c2,rfl,l2,g2⟩:=k42_open hK;exact ⟨ad,A2,c2,e,hc 0 _ rfl,by rw [←yq_ _ _ 1 (by omega)];exact hc 1 _ rfl,by rw [←yq_ _ _ 2 (by omega)];exact hc 2 _ rfl,l2,g2⟩
structure S161 where
 f0:Int
 f1:Int
 f2:ByteArray
 f3:S80
 f4:Int
 f5:Int
def z161:S161:=⟨(0:Int),(0:Int),(⟨#[]⟩:ByteArray),z80,(0:Int),(0:Int)⟩
def k161:Kd S161:=Kd.iso (Kd.pair (Kd.int .i64) (Kd.pair (Kd.int .u8) (Kd.pair Kd.string (Kd.pair k80 (Kd.pair (Kd.int .i64) (Kd.int .i64)))))) (fun x:S161=>(x.f0,x.f1,x.f2,x.f3,x.f4,x.f5))
theorem k161_open {w:World} {x:S161} {cs:List Value} (h:k161.K w x cs):cs=[.int .i64 x.f0,.int .u8 x.f1,.string x.f2,.int .i64 x.f3.f0,.int .i64 x.f3.f1,.string x.f3.f2,.int .i64 x.f4,.int .i64 x.f5]:=by
 obtain ⟨_,_,rfl,rfl,⟨_,_,rfl,rfl,⟨_,_,rfl,rfl,⟨_,_,rfl,s3,⟨_,_,rfl,rfl,rfl⟩⟩⟩⟩⟩:=h;obtain rfl:=k80_open s3;exact rfl
theorem k161_openM {w:World} {base:Nat} {ok:Nat→Prop} {x:S161} {cs:List Value} (h:k161.M w base ok x cs):cs=[.int .i64 x.f0,.int .u8 x.f1,.string x.f2,.int .i64 x.f3.f0,.int .i64 x.f3.f1,.string x.f3.f2,.int .i64 x.f4,.int .i64 x.f5]:=by
 obtain ⟨_,_,rfl,rfl,⟨_,_,rfl,rfl,⟨_,_,rfl,rfl,⟨_,_,rfl,s3,⟨_,_,rfl,rfl,rfl⟩⟩⟩⟩⟩:=h;obtain rfl:=k80_openM s3;exact rfl
theorem k161_mkM (w:World) (base:Nat) (ok:Nat→Prop) (x:S161)  : k161.M w base ok x [.int .i64 x.f0,.int .u8 x.f1,.string x.f2,.int .i64 x.f3.f0,.int .i64 x.f3.f1,.string x.f3.f2,.int .i64 x.f4,.int .i64 x.f5]:=⟨[.int .i64 x.f0],[.int .u8 x.f1,.string x.f2,.int .i64 x.f3.f0,.int .i64 x.f3.f1,.string x.f3.f2,.int .i64 x.f4,.int .i64 x.f5],rfl,rfl,⟨[.int .u8 x.f1],[.string x.f2,.int .i64 x.f3.f0,.int .i64 x.f3.f1,.string x.f3.f2,.int .i64 x.f4,.int .i64 x.f5],rfl,rfl,⟨[.string x.f2],[.int .i64 x.f3.f0,.int .i64 x.f3.f1,.string x.f3.f2,.int .i64 x.f4,.int .i64 x.f5],rfl,rfl,⟨[.int .i64 x.f3.f0,.int .i64 x.f3.f1,.string x.f3.f2],[.int .i64 x.f4,.int .i64 x.f5],rfl,(k80_mkM w base ok x.f3 ),⟨[.int .i64 x.f4],[.int .i64 x.f5],rfl,rfl,rfl⟩⟩⟩⟩⟩
def z2_ (xs:List S161) (i:Int):S161:=xs.getD i.toNat z161
theorem at_T161 {w:World} {A:Option Addr} {n:Nat} {xs:List S161} (h:Kd.C k161 w A n xs) (i:Int) (h0:0≤i) (h1:i<n):∃ad ,A=some ad∧w.cell? (ad.add (i.toNat*8))=some (.int .i64 (z2_ xs i).f0)∧w.cell? ⟨(ad.add (i.toNat*8)).block,(ad.add (i.toNat*8)).off+1,none⟩=some (.int .u8 (z2_ xs i).f1)∧w.cell? ⟨(ad.add (i.toNat*8)).block,(ad.add (i.toNat*8)).off+2,none⟩=some (.string (z2_ xs i).f2)∧w.cell? ⟨(ad.add (i.toNat*8)).block,(ad.add (i.toNat*8)).off+3,none⟩=some (.int .i64 (z2_ xs i).f3.f0)∧w.cell? ⟨(ad.add (i.toNat*8)).block,(ad.add (i.toNat*8)).off+4,none⟩=some (.int .i64 (z2_ xs i).f3.f1)∧w.cell? ⟨(ad.add (i.toNat*8)).block,(ad.add (i.toNat*8)).off+5,none⟩=some (.string (z2_ xs i).f3.f2)∧w.cell? ⟨(ad.add (i.toNat*8)).block,(ad.add (i.toNat*8)).off+6,none⟩=some (.int .i64 (z2_ xs i).f4)∧w.cell? ⟨(ad.add (i.toNat*8)).block,(ad.add (i.toNat*8)).off+7,none⟩=some (.int .i64 (z2_ xs i).f5):=by
 obtain ⟨ad,c,e,_,hK,hc0⟩:=Kd.C_get h z161 i h0 h1;have hc:∀j u,c[j]?=some u→w.cell? (ad.add (i.toNat*8+j))=some u:=hc0
 obtain rfl:=k161_open hK;exact ⟨ad,e,hc 0 _ rfl,by rw [←yq_ _ _ 1 (by omega)];exact hc 1 _ rfl,by rw [←yq_ _ _ 2 (by omega)];exact hc 2 _ rfl,by rw [←yq_ _ _ 3 (by omega)];exact hc 3 _ rfl,by rw [←yq_ _ _ 4 (by omega)];exact hc 4 _ rfl,by rw [←yq_ _ _ 5 (by omega)];exact hc 5 _ rfl,by rw [←yq_ _ _ 6 (by omega)];exact hc 6 _ rfl,by rw [←yq_ _ _ 7 (by omega)];exact hc 7 _ rfl⟩
def rd_L9 (xs:List (List Int)) (i:Int):(List Int):=xs.getD i.toNat ([]:List Int)
theorem at_L9 {w:World} {A:Option Addr} {n:Nat} {xs:List (List Int)} (h:Kd.C (Kd.slice 3 (Kd.int .i64)) w A n xs) (i:Int) (h0:0≤i) (h1:i<n):∃ad A0 c0,A=some ad∧w.cell? (ad.add i.toNat)=some (.slice A0 (rd_L9 xs i).length c0)∧(rd_L9 xs i).length≤c0∧(Kd.int .i64).C w A0 (rd_L9 xs i).length (rd_L9 xs i):=by
 obtain ⟨ad,c,e,_,hK,hc0⟩:=Kd.C_get h ([]:List Int) i h0 h1;have hc:∀j u,c[j]?=some u→w.cell? (ad.add (i.toNat*1+j))=some u:=hc0
 obtain ⟨A0,c0,rfl,l0,g0⟩:=hK;exact ⟨ad,A0,c0,e,by have hq:=hc 0 _ rfl;rwa [Nat.mul_one,Nat.add_zero] at hq,l0,g0⟩
structure S98 where
 f0:Int
 f1:Int
 f2:ByteArray
 f3:(List Int)
def z98:S98:=⟨(0:Int),(0:Int),(⟨#[]⟩:ByteArray),([]:List Int)⟩
def k98:Kd S98:=Kd.iso (Kd.pair (Kd.int .i64) (Kd.pair (Kd.int .i64) (Kd.pair Kd.string (Kd.slice 3 (Kd.int .i64))))) (fun x:S98=>(x.f0,x.f1,x.f2,x.f3))
theorem k98_open {w:World} {x:S98} {cs:List Value} (h:k98.K w x cs):∃A3 c3,cs=[.int .i64 x.f0,.int .i64 x.f1,.string x.f2,.slice A3 x.f3.length c3]∧x.f3.length≤c3∧(Kd.int .i64).C w A3 x.f3.length x.f3:=by
 obtain ⟨_,_,rfl,rfl,⟨_,_,rfl,rfl,⟨_,_,rfl,rfl,⟨A3,c3,rfl,l3,g3⟩⟩⟩⟩:=h;exact ⟨A3,c3,rfl,l3,g3⟩
theorem k98_openM {w:World} {base:Nat} {ok:Nat→Prop} {x:S98} {cs:List Value} (h:k98.M w base ok x cs):∃v3,cs=[.int .i64 x.f0,.int .i64 x.f1,.string x.f2,v3]∧(Kd.int .i64).R 3 w base ok v3 x.f3:=by
 obtain ⟨_,_,rfl,rfl,⟨_,_,rfl,rfl,⟨_,_,rfl,rfl,⟨v3,rfl,g3⟩⟩⟩⟩:=h;exact ⟨v3,rfl,g3⟩
theorem k98_mkM (w:World) (base:Nat) (ok:Nat→Prop) (x:S98) {v3:Value} (g3:(Kd.int .i64).R 3 w base ok v3 x.f3):k98.M w base ok x [.int .i64 x.f0,.int .i64 x.f1,.string x.f2,v3]:=⟨[.int .i64 x.f0],[.int .i64 x.f1,.string x.f2,v3],rfl,rfl,⟨[.int .i64 x.f1],[.string x.f2,v3],rfl,rfl,⟨[.string x.f2],[v3],rfl,rfl,⟨v3,rfl,g3⟩⟩⟩⟩
def y3_ (xs:List S98) (i:Int):S98:=xs.getD i.toNat z98
theorem at_T98 {w:World} {A:Option Addr} {n:Nat} {xs:List S98} (h:Kd.C k98 w A n xs) (i:Int) (h0:0≤i) (h1:i<n):∃ad A3 c3,A=some ad∧w.cell? (ad.add (i.toNat*4))=some (.int .i64 (y3_ xs i).f0)∧w.cell? ⟨(ad.add (i.toNat*4)).block,(ad.add (i.toNat*4)).off+1,none⟩=some (.int .i64 (y3_ xs i).f1)∧w.cell? ⟨(ad.add (i.toNat*4)).block,(ad.add (i.toNat*4)).off+2,none⟩=some (.string (y3_ xs i).f2)∧w.cell? ⟨(ad.add (i.toNat*4)).block,(ad.add (i.toNat*4)).off+3,none⟩=some (.slice A3 (y3_ xs i).f3.length c3)∧(y3_ xs i).f3.length≤c3∧(Kd.int .i64).C w A3 (y3_ xs i).f3.length (y3_ xs i).f3:=by
 obtain ⟨ad,c,e,_,hK,hc0⟩:=Kd.C_get h z98 i h0 h1;have hc:∀j u,c[j]?=some u→w.cell? (ad.add (i.toNat*4+j))=some u:=hc0
 obtain ⟨A3,c3,rfl,l3,g3⟩:=k98_open hK;exact ⟨ad,A3,c3,e,hc 0 _ rfl,by rw [←yq_ _ _ 1 (by omega)];exact hc 1 _ rfl,by rw [←yq_ _ _ 2 (by omega)];exact hc 2 _ rfl,by rw [←yq_ _ _ 3 (by omega)];exact hc 3 _ rfl,l3,g3⟩
structure S39 where
 f0:ByteArray
 f1:Int
 f2:(List S42)
 f3:(List S161)
 f4:(List S98)
def z39:S39:=⟨(⟨#[]⟩:ByteArray),(0:Int),([]:List S42),([]:List S161),([]:List S98)⟩
def k39:Kd S39:=Kd.iso (Kd.pair Kd.string (Kd.pair (Kd.int .i64) (Kd.pair (Kd.slice 42 k42) (Kd.pair (Kd.slice 161 k161) (Kd.slice 98 k98))))) (fun x:S39=>(x.f0,x.f1,x.f2,x.f3,x.f4))
theorem k39_open {w:World} {x:S39} {cs:List Value} (h:k39.K w x cs):∃A2 c2 A3 c3 A4 c4,cs=[.string x.f0,.int .i64 x.f1,.slice A2 x.f2.length c2,.slice A3 x.f3.length c3,.slice A4 x.f4.length c4]∧x.f2.length≤c2∧k42.C w A2 x.f2.length x.f2∧x.f3.length≤c3∧k161.C w A3 x.f3.length x.f3∧x.f4.length≤c4∧k98.C w A4 x.f4.length x.f4:=by
 obtain ⟨_,_,rfl,rfl,⟨_,_,rfl,rfl,⟨_,_,rfl,⟨A2,c2,rfl,l2,g2⟩,⟨_,_,rfl,⟨A3,c3,rfl,l3,g3⟩,⟨A4,c4,rfl,l4,g4⟩⟩⟩⟩⟩:=h;exact ⟨A2,c2,A3,c3,A4,c4,rfl,l2,g2,l3,g3,l4,g4⟩
theorem k39_openM {w:World} {base:Nat} {ok:Nat→Prop} {x:S39} {cs:List Value} (h:k39.M w base ok x cs):∃v2 v3 v4,cs=[.string x.f0,.int .i64 x.f1,v2,v3,v4]∧k42.R 42 w base ok v2 x.f2∧k161.R 161 w base ok v3 x.f3∧k98.R 98 w base ok v4 x.f4:=by
 obtain ⟨_,_,rfl,rfl,⟨_,_,rfl,rfl,⟨_,_,rfl,⟨v2,rfl,g2⟩,⟨_,_,rfl,⟨v3,rfl,g3⟩,⟨v4,rfl,g4⟩⟩⟩⟩⟩:=h;exact ⟨v2,v3,v4,rfl,g2,g3,g4⟩
theorem k39_mkM (w:World) (base:Nat) (ok:Nat→Prop) (x:S39) {v2:Value} (g2:k42.R 42 w base ok v2 x.f2) {v3:Value} (g3:k161.R 161 w base ok v3 x.f3) {v4:Value} (g4:k98.R 98 w base ok v4 x.f4):k39.M w base ok x [.string x.f0,.int .i64 x.f1,v2,v3,v4]:=⟨[.string x.f0],[.int .i64 x.f1,v2,v3,v4],rfl,rfl,⟨[.int .i64 x.f1],[v2,v3,v4],rfl,rfl,⟨[v2],[v3,v4],rfl,⟨v2,rfl,g2⟩,⟨[v3],[v4],rfl,⟨v3,rfl,g3⟩,⟨v4,rfl,g4⟩⟩⟩⟩⟩
def z9_ (xs:List S39) (i:Int):S39:=xs.getD i.toNat z39
theorem at_T39 {w:World} {A:Option Addr} {n:Nat} {xs:List S39} (h:Kd.C k39 w A n xs) (i:Int) (h0:0≤i) (h1:i<n):∃ad A2 c2 A3 c3 A4 c4,A=some ad∧w.cell? (ad.add (i.toNat*5))=some (.string (z9_ xs i).f0)∧w.cell? ⟨(ad.add (i.toNat*5)).block,(ad.add (i.toNat*5)).off+1,none⟩=some (.int .i64 (z9_ xs i).f1)∧w.cell? ⟨(ad.add (i.toNat*5)).block,(ad.add (i.toNat*5)).off+2,none⟩=some (.slice A2 (z9_ xs i).f2.length c2)∧w.cell? ⟨(ad.add (i.toNat*5)).block,(ad.add (i.toNat*5)).off+3,none⟩=some (.slice A3 (z9_ xs i).f3.length c3)∧w.cell? ⟨(ad.add (i.toNat*5)).block,(ad.add (i.toNat*5)).off+4,none⟩=some (.slice A4 (z9_ xs i).f4.length c4)∧(z9_ xs i).f2.length≤c2∧k42.C w A2 (z9_ xs i).f2.length (z9_ xs i).f2∧(z9_ xs i).f3.length≤c3∧k161.C w A3 (z9_ xs i).f3.length (z9_ xs i).f3∧(z9_ xs i).f4.length≤c4∧k98.C w A4 (z9_ xs i).f4.length (z9_ xs i).f4:=by
 obtain ⟨ad,c,e,_,hK,hc0⟩:=Kd.C_get h z39 i h0 h1;have hc:∀j u,c[j]?=some u→w.cell? (ad.add (i.toNat*5+j))=some u:=hc0
 obtain ⟨A2,c2,A3,c3,A4,c4,rfl,l2,g2,l3,g3,l4,g4⟩:=k39_open hK;exact ⟨ad,A2,c2,A3,c3,A4,c4,e,hc 0 _ rfl,by rw [←yq_ _ _ 1 (by omega)];exact hc 1 _ rfl,by rw [←yq_ _ _ 2 (by omega)];exact hc 2 _ rfl,by rw [←yq_ _ _ 3 (by omega)];exact hc 3 _ rfl,by rw [←yq_ _ _ 4 (by omega)];exact hc 4 _ rfl,l2,g2,l3,g3,l4,g4⟩
structure S82 where
 f0:Int
 f1:Int
 f2:Int
 f3:S80
def z82:S82:=⟨(0:Int),(0:Int),(0:Int),z80⟩
def k82:Kd S82:=Kd.iso (Kd.pair (Kd.int .i64) (Kd.pair (Kd.int .i64) (Kd.pair (Kd.int .i64) k80))) (fun x:S82=>(x.f0,x.f1,x.f2,x.f3))
theorem k82_open {w:World} {x:S82} {cs:List Value} (h:k82.K w x cs):cs=[.int .i64 x.f0,.int .i64 x.f1,.int .i64 x.f2,.int .i64 x.f3.f0,.int .i64 x.f3.f1,.string x.f3.f2]:=by
 obtain ⟨_,_,rfl,rfl,⟨_,_,rfl,rfl,⟨_,_,rfl,rfl,s3⟩⟩⟩:=h;obtain rfl:=k80_open s3;exact rfl
theorem k82_openM {w:World} {base:Nat} {ok:Nat→Prop} {x:S82} {cs:List Value} (h:k82.M w base ok x cs):cs=[.int .i64 x.f0,.int .i64 x.f1,.int .i64 x.f2,.int .i64 x.f3.f0,.int .i64 x.f3.f1,.string x.f3.f2]:=by
 obtain ⟨_,_,rfl,rfl,⟨_,_,rfl,rfl,⟨_,_,rfl,rfl,s3⟩⟩⟩:=h;obtain rfl:=k80_openM s3;exact rfl
theorem k82_mkM (w:World) (base:Nat) (ok:Nat→Prop) (x:S82)  : k82.M w base ok x [.int .i64 x.f0,.int .i64 x.f1,.int .i64 x.f2,.int .i64 x.f3.f0,.int .i64 x.f3.f1,.string x.f3.f2]:=⟨[.int .i64 x.f0],[.int .i64 x.f1,.int .i64 x.f2,.int .i64 x.f3.f0,.int .i64 x.f3.f1,.string x.f3.f2],rfl,rfl,⟨[.int .i64 x.f1],[.int .i64 x.f2,.int .i64 x.f3.f0,.int .i64 x.f3.f1,.string x.f3.f2],rfl,rfl,⟨[.int .i64 x.f2],[.int .i64 x.f3.f0,.int .i64 x.f3.f1,.string x.f3.f2],rfl,rfl,(k80_mkM w base ok x.f3 )⟩⟩⟩
def zb_ (xs:List S82) (i:Int):S82:=xs.getD i.toNat z82
theorem at_T82 {w:World} {A:Option Addr} {n:Nat} {xs:List S82} (h:Kd.C k82 w A n xs) (i:Int) (h0:0≤i) (h1:i<n):∃ad ,A=some ad∧w.cell? (ad.add (i.toNat*6))=some (.int .i64 (zb_ xs i).f0)∧w.cell? ⟨(ad.add (i.toNat*6)).block,(ad.add (i.toNat*6)).off+1,none⟩=some (.int .i64 (zb_ xs i).f1)∧w.cell? ⟨(ad.add (i.toNat*6)).block,(ad.add (i.toNat*6)).off+2,none⟩=some (.int .i64 (zb_ xs i).f2)∧w.cell? ⟨(ad.add (i.toNat*6)).block,(ad.add (i.toNat*6)).off+3,none⟩=some (.int .i64 (zb_ xs i).f3.f0)∧w.cell? ⟨(ad.add (i.toNat*6)).block,(ad.add (i.toNat*6)).off+4,none⟩=some (.int .i64 (zb_ xs i).f3.f1)∧w.cell? ⟨(ad.add (i.toNat*6)).block,(ad.add (i.toNat*6)).off+5,none⟩=some (.string (zb_ xs i).f3.f2):=by
 obtain ⟨ad,c,e,_,hK,hc0⟩:=Kd.C_get h z82 i h0 h1;have hc:∀j u,c[j]?=some u→w.cell? (ad.add (i.toNat*6+j))=some u:=hc0
 obtain rfl:=k82_open hK;exact ⟨ad,e,hc 0 _ rfl,by rw [←yq_ _ _ 1 (by omega)];exact hc 1 _ rfl,by rw [←yq_ _ _ 2 (by omega)];exact hc 2 _ rfl,by rw [←yq_ _ _ 3 (by omega)];exact hc 3 _ rfl,by rw [←yq_ _ _ 4 (by omega)];exact hc 4 _ rfl,by rw [←yq_ _ _ 5 (by omega)];exact hc 5 _ rfl⟩
structure S50 where
 f0:ByteArray
 f1:Int
 f2:(List S82)
def z50:S50:=⟨(⟨#[]⟩:ByteArray),(0:Int),([]:List S82)⟩
def k50:Kd S50:=Kd.iso (Kd.pair Kd.string (Kd.pair (Kd.int .i64) (Kd.slice 82 k82))) (fun x:S50=>(x.f0,x.f1,x.f2))
theorem k50_open {w:World} {x:S50} {cs:List Value} (h:k50.K w x cs):∃A2 c2,cs=[.string x.f0,.int .i64 x.f1,.slice A2 x.f2.length c2]∧x.f2.length≤c2∧k82.C w A2 x.f2.length x.f2:=by
 obtain ⟨_,_,rfl,rfl,⟨_,_,rfl,rfl,⟨A2,c2,rfl,l2,g2⟩⟩⟩:=h;exact ⟨A2,c2,rfl,l2,g2⟩
theorem k50_openM {w:World} {base:Nat} {ok:Nat→Prop} {x:S50} {cs:List Value} (h:k50.M w base ok x cs):∃v2,cs=[.string x.f0,.int .i64 x.f1,v2]∧k82.R 82 w base ok v2 x.f2:=by
 obtain ⟨_,_,rfl,rfl,⟨_,_,rfl,rfl,⟨v2,rfl,g2⟩⟩⟩:=h;exact ⟨v2,rfl,g2⟩
theorem k50_mkM (w:World) (base:Nat) (ok:Nat→Prop) (x:S50) {v2:Value} (g2:k82.R 82 w base ok v2 x.f2):k50.M w base ok x [.string x.f0,.int .i64 x.f1,v2]:=⟨[.string x.f0],[.int .i64 x.f1,v2],rfl,rfl,⟨[.int .i64 x.f1],[v2],rfl,rfl,⟨v2,rfl,g2⟩⟩⟩
def xg_ (xs:List S50) (i:Int):S50:=xs.getD i.toNat z50
theorem at_T50 {w:World} {A:Option Addr} {n:Nat} {xs:List S50} (h:Kd.C k50 w A n xs) (i:Int) (h0:0≤i) (h1:i<n):∃ad A2 c2,A=some ad∧w.cell? (ad.add (i.toNat*3))=some (.string (xg_ xs i).f0)∧w.cell? ⟨(ad.add (i.toNat*3)).block,(ad.add (i.toNat*3)).off+1,none⟩=some (.int .i64 (xg_ xs i).f1)∧w.cell? ⟨(ad.add (i.toNat*3)).block,(ad.add (i.toNat*3)).off+2,none⟩=some (.slice A2 (xg_ xs i).f2.length c2)∧(xg_ xs i).f2.length≤c2∧k82.C w A2 (xg_ xs i).f2.length (xg_ xs i).f2:=by
 obtain ⟨ad,c,e,_,hK,hc0⟩:=Kd.C_get h z50 i h0 h1;have hc:∀j u,c[j]?=some u→w.cell? (ad.add (i.toNat*3+j))=some u:=hc0
 obtain ⟨A2,c2,rfl,l2,g2⟩:=k50_open hK;exact ⟨ad,A2,c2,e,hc 0 _ rfl,by rw [←yq_ _ _ 1 (by omega)];exact hc 1 _ rfl,by rw [←yq_ _ _ 2 (by omega)];exact hc 2 _ rfl,l2,g2⟩
structure S183 where
 f0:Int
 f1:Int
 f2:ByteArray
def z183:S183:=⟨(0:Int),(0:Int),(⟨#[]⟩:ByteArray)⟩
def k183:Kd S183:=Kd.iso (Kd.pair (Kd.int .i64) (Kd.pair (Kd.int .i64) Kd.string)) (fun x:S183=>(x.f0,x.f1,x.f2))
theorem k183_open {w:World} {x:S183} {cs:List Value} (h:k183.K w x cs):cs=[.int .i64 x.f0,.int .i64 x.f1,.string x.f2]:=by
 obtain ⟨_,_,rfl,rfl,⟨_,_,rfl,rfl,rfl⟩⟩:=h;exact rfl
structure S253 where
 f0:Int
 f1:Int
 f2:ByteArray
 f3:S183
def z253:S253:=⟨(0:Int),(0:Int),(⟨#[]⟩:ByteArray),z183⟩
def k253:Kd S253:=Kd.iso (Kd.pair (Kd.int .i64) (Kd.pair (Kd.int .i64) (Kd.pair Kd.string k183))) (fun x:S253=>(x.f0,x.f1,x.f2,x.f3))
theorem k253_open {w:World} {x:S253} {cs:List Value} (h:k253.K w x cs):cs=[.int .i64 x.f0,.int .i64 x.f1,.string x.f2,.int .i64 x.f3.f0,.int .i64 x.f3.f1,.string x.f3.f2]:=by
 obtain ⟨_,_,rfl,rfl,⟨_,_,rfl,rfl,⟨_,_,rfl,rfl,s3⟩⟩⟩:=h;obtain rfl:=k183_open s3;exact rfl
def xd_ (xs:List S253) (i:Int):S253:=xs.getD i.toNat z253
theorem at_T253 {w:World} {A:Option Addr} {n:Nat} {xs:List S253} (h:Kd.C k253 w A n xs) (i:Int) (h0:0≤i) (h1:i<n):∃ad ,A=some ad∧w.cell? (ad.add (i.toNat*6))=some (.int .i64 (xd_ xs i).f0)∧w.cell? ⟨(ad.add (i.toNat*6)).block,(ad.add (i.toNat*6)).off+1,none⟩=some (.int .i64 (xd_ xs i).f1)∧w.cell? ⟨(ad.add (i.toNat*6)).block,(ad.add (i.toNat*6)).off+2,none⟩=some (.string (xd_ xs i).f2)∧w.cell? ⟨(ad.add (i.toNat*6)).block,(ad.add (i.toNat*6)).off+3,none⟩=some (.int .i64 (xd_ xs i).f3.f0)∧w.cell? ⟨(ad.add (i.toNat*6)).block,(ad.add (i.toNat*6)).off+4,none⟩=some (.int .i64 (xd_ xs i).f3.f1)∧w.cell? ⟨(ad.add (i.toNat*6)).block,(ad.add (i.toNat*6)).off+5,none⟩=some (.string (xd_ xs i).f3.f2):=by
 obtain ⟨ad,c,e,_,hK,hc0⟩:=Kd.C_get h z253 i h0 h1;have hc:∀j u,c[j]?=some u→w.cell? (ad.add (i.toNat*6+j))=some u:=hc0
 obtain rfl:=k253_open hK;exact ⟨ad,e,hc 0 _ rfl,by rw [←yq_ _ _ 1 (by omega)];exact hc 1 _ rfl,by rw [←yq_ _ _ 2 (by omega)];exact hc 2 _ rfl,by rw [←yq_ _ _ 3 (by omega)];exact hc 3 _ rfl,by rw [←yq_ _ _ 4 (by omega)];exact hc 4 _ rfl,by rw [←yq_ _ _ 5 (by omega)];exact hc 5 _ rfl⟩
structure S181 where
 f0:Bool
 f1:ByteArray
 f2:(List S253)
def z181:S181:=⟨false,(⟨#[]⟩:ByteArray),([]:List S253)⟩
def k181:Kd S181:=Kd.iso (Kd.pair Kd.bool (Kd.pair Kd.string (Kd.slice 253 k253))) (fun x:S181=>(x.f0,x.f1,x.f2))
theorem k181_open {w:World} {x:S181} {cs:List Value} (h:k181.K w x cs):∃A2 c2,cs=[.bool x.f0,.string x.f1,.slice A2 x.f2.length c2]∧x.f2.length≤c2∧k253.C w A2 x.f2.length x.f2:=by
 obtain ⟨_,_,rfl,rfl,⟨_,_,rfl,rfl,⟨A2,c2,rfl,l2,g2⟩⟩⟩:=h;exact ⟨A2,c2,rfl,l2,g2⟩
def wg_ (xs:List S181) (i:Int):S181:=xs.getD i.toNat z181
theorem at_T181 {w:World} {A:Option Addr} {n:Nat} {xs:List S181} (h:Kd.C k181 w A n xs) (i:Int) (h0:0≤i) (h1:i<n):∃ad A2 c2,A=some ad∧w.cell? (ad.add (i.toNat*3))=some (.bool (wg_ xs i).f0)∧w.cell? ⟨(ad.add (i.toNat*3)).block,(ad.add (i.toNat*3)).off+1,none⟩=some (.string (wg_ xs i).f1)∧w.cell? ⟨(ad.add (i.toNat*3)).block,(ad.add (i.toNat*3)).off+2,none⟩=some (.slice A2 (wg_ xs i).f2.length c2)∧(wg_ xs i).f2.length≤c2∧k253.C w A2 (wg_ xs i).f2.length (wg_ xs i).f2:=by
 obtain ⟨ad,c,e,_,hK,hc0⟩:=Kd.C_get h z181 i h0 h1;have hc:∀j u,c[j]?=some u→w.cell? (ad.add (i.toNat*3+j))=some u:=hc0
 obtain ⟨A2,c2,rfl,l2,g2⟩:=k181_open hK;exact ⟨ad,A2,c2,e,hc 0 _ rfl,by rw [←yq_ _ _ 1 (by omega)];exact hc 1 _ rfl,by rw [←yq_ _ _ 2 (by omega)];exact hc 2 _ rfl,l2,g2⟩
structure S185 where
 f0:Int
 f1:Int
 f2:ByteArray
 f3:S183
 f4:Int
 f5:Int
def z185:S185:=⟨(0:Int),(0:Int),(⟨#[]⟩:ByteArray),z183,(0:Int),(0:Int)⟩
def k185:Kd S185:=Kd.iso (Kd.pair (Kd.int .i64) (Kd.pair (Kd.int .u8) (Kd.pair Kd.string (Kd.pair k183 (Kd.pair (Kd.int .i64) (Kd.int .i64)))))) (fun x:S185=>(x.f0,x.f1,x.f2,x.f3,x.f4,x.f5))
theorem k185_open {w:World} {x:S185} {cs:List Value} (h:k185.K w x cs):cs=[.int .i64 x.f0,.int .u8 x.f1,.string x.f2,.int .i64 x.f3.f0,.int .i64 x.f3.f1,.string x.f3.f2,.int .i64 x.f4,.int .i64 x.f5]:=by
 obtain ⟨_,_,rfl,rfl,⟨_,_,rfl,rfl,⟨_,_,rfl,rfl,⟨_,_,rfl,s3,⟨_,_,rfl,rfl,rfl⟩⟩⟩⟩⟩:=h;obtain rfl:=k183_open s3;exact rfl
def yo_ (xs:List S185) (i:Int):S185:=xs.getD i.toNat z185
theorem at_T185 {w:World} {A:Option Addr} {n:Nat} {xs:List S185} (h:Kd.C k185 w A n xs) (i:Int) (h0:0≤i) (h1:i<n):∃ad ,A=some ad∧w.cell? (ad.add (i.toNat*8))=some (.int .i64 (yo_ xs i).f0)∧w.cell? ⟨(ad.add (i.toNat*8)).block,(ad.add (i.toNat*8)).off+1,none⟩=some (.int .u8 (yo_ xs i).f1)∧w.cell? ⟨(ad.add (i.toNat*8)).block,(ad.add (i.toNat*8)).off+2,none⟩=some (.string (yo_ xs i).f2)∧w.cell? ⟨(ad.add (i.toNat*8)).block,(ad.add (i.toNat*8)).off+3,none⟩=some (.int .i64 (yo_ xs i).f3.f0)∧w.cell? ⟨(ad.add (i.toNat*8)).block,(ad.add (i.toNat*8)).off+4,none⟩=some (.int .i64 (yo_ xs i).f3.f1)∧w.cell? ⟨(ad.add (i.toNat*8)).block,(ad.add (i.toNat*8)).off+5,none⟩=some (.string (yo_ xs i).f3.f2)∧w.cell? ⟨(ad.add (i.toNat*8)).block,(ad.add (i.toNat*8)).off+6,none⟩=some (.int .i64 (yo_ xs i).f4)∧w.cell? ⟨(ad.add (i.toNat*8)).block,(ad.add (i.toNat*8)).off+7,none⟩=some (.int .i64 (yo_ xs i).f5):=by
 obtain ⟨ad,c,e,_,hK,hc0⟩:=Kd.C_get h z185 i h0 h1;have hc:∀j u,c[j]?=some u→w.cell? (ad.add (i.toNat*8+j))=some u:=hc0
 obtain rfl:=k185_open hK;exact ⟨ad,e,hc 0 _ rfl,by rw [←yq_ _ _ 1 (by omega)];exact hc 1 _ rfl,by rw [←yq_ _ _ 2 (by omega)];exact hc 2 _ rfl,by rw [←yq_ _ _ 3 (by omega)];exact hc 3 _ rfl,by rw [←yq_ _ _ 4 (by omega)];exact hc 4 _ rfl,by rw [←yq_ _ _ 5 (by omega)];exact hc 5 _ rfl,by rw [←yq_ _ _ 6 (by omega)];exact hc 6 _ rfl,by rw [←yq_ _ _ 7 (by omega)];exact hc 7 _ rfl⟩
structure S187 where
 f0:Int
 f1:Int
 f2:ByteArray
 f3:(List Int)
def z187:S187:=⟨(0:Int),(0:Int),(⟨#[]⟩:ByteArray),([]:List Int)⟩
def k187:Kd S187:=Kd.iso (Kd.pair (Kd.int .i64) (Kd.pair (Kd.int .i64) (Kd.pair Kd.string (Kd.slice 3 (Kd.int .i64))))) (fun x:S187=>(x.f0,x.f1,x.f2,x.f3))
theorem k187_open {w:World} {x:S187} {cs:List Value} (h:k187.K w x cs):∃A3 c3,cs=[.int .i64 x.f0,.int .i64 x.f1,.string x.f2,.slice A3 x.f3.length c3]∧x.f3.length≤c3∧(Kd.int .i64).C w A3 x.f3.length x.f3:=by
 obtain ⟨_,_,rfl,rfl,⟨_,_,rfl,rfl,⟨_,_,rfl,rfl,⟨A3,c3,rfl,l3,g3⟩⟩⟩⟩:=h;exact ⟨A3,c3,rfl,l3,g3⟩
def xw_ (xs:List S187) (i:Int):S187:=xs.getD i.toNat z187
theorem at_T187 {w:World} {A:Option Addr} {n:Nat} {xs:List S187} (h:Kd.C k187 w A n xs) (i:Int) (h0:0≤i) (h1:i<n):∃ad A3 c3,A=some ad∧w.cell? (ad.add (i.toNat*4))=some (.int .i64 (xw_ xs i).f0)∧w.cell? ⟨(ad.add (i.toNat*4)).block,(ad.add (i.toNat*4)).off+1,none⟩=some (.int .i64 (xw_ xs i).f1)∧w.cell? ⟨(ad.add (i.toNat*4)).block,(ad.add (i.toNat*4)).off+2,none⟩=some (.string (xw_ xs i).f2)∧w.cell? ⟨(ad.add (i.toNat*4)).block,(ad.add (i.toNat*4)).off+3,none⟩=some (.slice A3 (xw_ xs i).f3.length c3)∧(xw_ xs i).f3.length≤c3∧(Kd.int .i64).C w A3 (xw_ xs i).f3.length (xw_ xs i).f3:=by
 obtain ⟨ad,c,e,_,hK,hc0⟩:=Kd.C_get h z187 i h0 h1;have hc:∀j u,c[j]?=some u→w.cell? (ad.add (i.toNat*4+j))=some u:=hc0
 obtain ⟨A3,c3,rfl,l3,g3⟩:=k187_open hK;exact ⟨ad,A3,c3,e,hc 0 _ rfl,by rw [←yq_ _ _ 1 (by omega)];exact hc 1 _ rfl,by rw [←yq_ _ _ 2 (by omega)];exact hc 2 _ rfl,by rw [←yq_ _ _ 3 (by omega)];exact hc 3 _ rfl,l3,g3⟩
structure S94 where
 f0:ByteArray
 f1:Int
 f2:(List S181)
 f3:(List S185)
 f4:(List S187)
def z94:S94:=⟨(⟨#[]⟩:ByteArray),(0:Int),([]:List S181),([]:List S185),([]:List S187)⟩
def k94:Kd S94:=Kd.iso (Kd.pair Kd.string (Kd.pair (Kd.int .i64) (Kd.pair (Kd.slice 181 k181) (Kd.pair (Kd.slice 185 k185) (Kd.slice 187 k187))))) (fun x:S94=>(x.f0,x.f1,x.f2,x.f3,x.f4))
theorem k94_open {w:World} {x:S94} {cs:List Value} (h:k94.K w x cs):∃A2 c2 A3 c3 A4 c4,cs=[.string x.f0,.int .i64 x.f1,.slice A2 x.f2.length c2,.slice A3 x.f3.length c3,.slice A4 x.f4.length c4]∧x.f2.length≤c2∧k181.C w A2 x.f2.length x.f2∧x.f3.length≤c3∧k185.C w A3 x.f3.length x.f3∧x.f4.length≤c4∧k187.C w A4 x.f4.length x.f4:=by
 obtain ⟨_,_,rfl,rfl,⟨_,_,rfl,rfl,⟨_,_,rfl,⟨A2,c2,rfl,l2,g2⟩,⟨_,_,rfl,⟨A3,c3,rfl,l3,g3⟩,⟨A4,c4,rfl,l4,g4⟩⟩⟩⟩⟩:=h;exact ⟨A2,c2,A3,c3,A4,c4,rfl,l2,g2,l3,g3,l4,g4⟩
def xv_ (xs:List S94) (i:Int):S94:=xs.getD i.toNat z94
theorem at_T94 {w:World} {A:Option Addr} {n:Nat} {xs:List S94} (h:Kd.C k94 w A n xs) (i:Int) (h0:0≤i) (h1:i<n):∃ad A2 c2 A3 c3 A4 c4,A=some ad∧w.cell? (ad.add (i.toNat*5))=some (.string (xv_ xs i).f0)∧w.cell? ⟨(ad.add (i.toNat*5)).block,(ad.add (i.toNat*5)).off+1,none⟩=some (.int .i64 (xv_ xs i).f1)∧w.cell? ⟨(ad.add (i.toNat*5)).block,(ad.add (i.toNat*5)).off+2,none⟩=some (.slice A2 (xv_ xs i).f2.length c2)∧w.cell? ⟨(ad.add (i.toNat*5)).block,(ad.add (i.toNat*5)).off+3,none⟩=some (.slice A3 (xv_ xs i).f3.length c3)∧w.cell? ⟨(ad.add (i.toNat*5)).block,(ad.add (i.toNat*5)).off+4,none⟩=some (.slice A4 (xv_ xs i).f4.length c4)∧(xv_ xs i).f2.length≤c2∧k181.C w A2 (xv_ xs i).f2.length (xv_ xs i).f2∧(xv_ xs i).f3.length≤c3∧k185.C w A3 (xv_ xs i).f3.length (xv_ xs i).f3∧(xv_ xs i).f4.length≤c4∧k187.C w A4 (xv_ xs i).f4.length (xv_ xs i).f4:=by
 obtain ⟨ad,c,e,_,hK,hc0⟩:=Kd.C_get h z94 i h0 h1;have hc:∀j u,c[j]?=some u→w.cell? (ad.add (i.toNat*5+j))=some u:=hc0
 obtain ⟨A2,c2,A3,c3,A4,c4,rfl,l2,g2,l3,g3,l4,g4⟩:=k94_open hK;exact ⟨ad,A2,c2,A3,c3,A4,c4,e,hc 0 _ rfl,by rw [←yq_ _ _ 1 (by omega)];exact hc 1 _ rfl,by rw [←yq_ _ _ 2 (by omega)];exact hc 2 _ rfl,by rw [←yq_ _ _ 3 (by omega)];exact hc 3 _ rfl,by rw [←yq_ _ _ 4 (by omega)];exact hc 4 _ rfl,l2,g2,l3,g3,l4,g4⟩
end Go.Proofs.YtahambloheoebaaGreatDoor.P
namespace Go.Proofs.YtahambloheoebaaGreatDoorX
open Go.RowKit Go.Proofs.YtahambloheoebaaGreatDoorW.PrintWords
def symOk (c:Int):Bool:=(decide (97≤c)&&decide (c≤122)) || (decide (48≤c)&&decide (c≤57)) || c==45
def symFrom (s:ByteArray) (i:Nat):Bool:=((List.range s.size).drop i).all fun j=>symOk (bt s j)
def xm_ (s:ByteArray):Bool:=if s.size=0 then false else if 20<s.size then false else if bt s 0<97 then false else if 122<bt s 0 then false else symFrom s 0
theorem symFrom_end (s:ByteArray):symFrom s s.size=true:=by
 unfold symFrom
 rw [List.drop_of_length_le (by simp)];rfl
theorem symFrom_step (s:ByteArray) (i:Nat) (h:i<s.size):symFrom s i=(symOk (bt s i)&&symFrom s (i+1)):=by
 unfold symFrom
 rw [List.drop_eq_getElem_cons (by simpa using h),List.all_cons];simp
theorem high_rune (s:ByteArray) (pos:Nat) (h:pos<s.size) (hb:128≤(s[pos]'h).toNat):128≤(Utf8.decode s pos).1:=by
 have hg:(s.get! (pos+0)).toNat=(s[pos]'h).toNat:=by
  rw [Nat.add_zero];show (s.data[pos]!).toNat=_;rw [getElem!_pos s.data pos h];rfl
 unfold Utf8.decode
 simp only [hg];generalize (s[pos]'h).toNat=b at hb;generalize (s.get! (pos+1)).toNat=b1;generalize (s.get! (pos+2)).toNat=b2;generalize (s.get! (pos+3)).toNat=b3;rw [if_neg (by omega)];repeat' split
 all_goals first|(simp only [Utf8.runeError];omega)|(rename_i h1;simp only [Bool.and_eq_true,decide_eq_true_eq] at h1;simp only [];omega)|(simp only [];omega)
theorem sym_decode (s:ByteArray) (pos:Nat) (h:pos<s.size):symOk ((Utf8.decode s pos).1:Int)=symOk (bt s pos)∧(symOk (bt s pos)=true→(Utf8.decode s pos).2=1):=by
 have hb:bt s (pos:Int)=((s[pos]'h).toNat:Int):=(bt_at s pos (by simpa using h)).symm
 by_cases c:(s[pos]'h).toNat<128
 ·rw [decode_ascii s pos h c,hb];exact ⟨rfl,fun _=>rfl⟩
 ·have h1:=high_rune s pos h (by omega)
  have f1:symOk ((Utf8.decode s pos).1:Int)=false:=by
   simp [symOk];omega
  have f2:symOk (bt s (pos:Int))=false:=by
   rw [hb];simp [symOk];omega
  rw [f1,f2];exact ⟨rfl,fun h=>by cases h⟩
end Go.Proofs.YtahambloheoebaaGreatDoorX
namespace Go.Proofs.YtahambloheoebaaGreatDoor.P
open Go.Proofs.YtahambloheoebaaGreatDoorX
open Go.RowKit Go.Proofs.YtahambloheoebaaGreatDoorW.PrintWords Go.Proofs.YtahambloheoebaaGreatDoorW.PrintLast Go.Proofs.YtahambloheoebaaGreatDoorW.PrintMore
attribute [local go_sem] ww_ wx_ max_two min_two wc_ wb_ wu_ wv_
open Go.Proofs.YtahambloheoebaaGreatDoorX in
def xe_.f (a0:ByteArray):Option Bool:=some (xm_ a0)
theorem uaec_1 {p:Prop} (h:p:=by
 go_enter Tryz.func67,Tryz.ntmps67;go_wp2;go_ret;exact ⟨rfl,HB.out⟩):p:=h
theorem uaec_0 {p:Prop} (h:p:=by
 have HO:=a_ ok;clear ok;go_wp2;go_roundw
 case rel=>
  have e1:=hsy.out;rw [HO.out] at e1;have e2:=e1.2 e1.1.symm;refine ⟨pos+1,by rw [←e2];exact hit2,⟨by have:=hp'.out;omega⟩,hbw2,⟨?_⟩⟩;rw [MI.out,hst.out,←e1.1];rfl
 case measure=>
  have e1:=hsy.out;rw [HO.out] at e1;have e2:=e1.2 e1.1.symm;have e3:W1.iterPos w.heap.size=pos+(Utf8.decode a0 pos).2:=by simp [World.iterPos,hit2]
  have:=hp'.out
  have:=hpos.out
  omega):p:=h
open Go.Proofs.YtahambloheoebaaGreatDoorX in
set_option maxHeartbeats 4000000 in
set_option maxRecDepth 100000 in
theorem xe_.calls (a0:ByteArray) (r:Bool) (w:World) (h:xe_.f a0=some r):
  Calls Tryz.prog 67 #[.string a0] w fun e w'=>e=.returned (.bool r)∧Below w.heap.size w w':=by
 have h:=Option.some.inj h;subst h;have HB:=a_ (Below.refl w.heap.size w);by_cases h1:a0.size=0
 ·have hv:xm_ a0=false:=by unfold xm_;rw [if_pos h1]
  rw [hv];have q1:a0.toList=[]:=by rw [ByteArray.toList_eq];exact List.eq_nil_of_length_eq_zero (by rw [Array.length_toList];exact h1)
  clear h1 hv;exact uaec_1
 have hz:0<a0.size:=by omega
 have hzz:¬(a0.toList=[]):=by
  intro e;rw [ByteArray.toList_eq] at e;have:=congrArg List.length e
  rw [Array.length_toList] at this;exact h1 this
 have q1:(a0.toList.isEmpty)=false:=by simpa using hzz
 have hbt:∀h:0<a0.size,((a0[0]'h).toNat:Int)=bt a0 0:=bt_at a0 0
 by_cases h2:20<a0.size
 ·have hv:xm_ a0=false:=by unfold xm_;rw [if_neg h1,if_pos h2]
  rw [hv];have q2:decide (20<(a0.size:Int))=true:=decide_eq_true (by omega)
  clear h1 h2 hv;exact uaec_1
 have q2:decide (20<(a0.size:Int))=false:=decide_eq_false (by omega)
 by_cases h3:bt a0 0<97
 ·have hv:xm_ a0=false:=by unfold xm_;rw [if_neg h1,if_neg h2,if_pos h3]
  rw [hv];have q3:decide (bt a0 0<97)=true:=decide_eq_true h3
  clear h1 h2 h3 hv;exact uaec_1
 have q3:decide (bt a0 0<97)=false:=decide_eq_false h3
 by_cases h4:122<bt a0 0
 ·have hv:xm_ a0=false:=by unfold xm_;rw [if_neg h1,if_neg h2,if_neg h3,if_pos h4]
  rw [hv];have q4:decide (122<bt a0 0)=true:=decide_eq_true h4
  clear h1 h2 h3 h4 hv;exact uaec_1
 have q4:decide (122<bt a0 0)=false:=decide_eq_false h4
 have hv:xm_ a0=symFrom a0 0:=by unfold xm_;rw [if_neg h1,if_neg h2,if_neg h3,if_neg h4]
 rw [hv];have HS:=a_ (show a0.size≤20 by omega);clear h1 h2 h3 h4 hv;go_enter Tryz.func67,Tryz.ntmps67;go_wp2;clear q1 q2 q3 q4 hzz hbt;go_loopw [4] (fun _ wr=>∃pos:Nat,wr.heap[w.heap.size]?=some (.stringIter a0 pos)∧z0_ (pos≤a0.size)∧z0_ (Below w.heap.size w wr)∧z0_ (symFrom a0 0=symFrom a0 pos)) (fun _ wr=>a0.size-wr.iterPos w.heap.size)
 case atStart=>exact ⟨0,World.iter_heap w a0 0,⟨Nat.zero_le _⟩,⟨(Below.refl _ _).alloc (Nat.le_refl _) _⟩,⟨rfl⟩⟩
 obtain ⟨pos,hit,hle,BW,MI⟩:=hrel;have hpos0:wr.iterPos w.heap.size=pos:=by simp [World.iterPos,hit]
 by_cases hp:pos<a0.size
 ·have hnx:∀ty,(Instr.next (.pointer (some ⟨w.heap.size,0,none⟩)) true ty).run Tryz.prog wr=_:=fun ty=>Lib.run_next_any_at wr w.heap.size a0 pos ty hit hp
  have hit2:=Lib.iterAt_heap wr w.heap.size a0 pos (pos+(Utf8.decode a0 pos).2) hit;have hbw2:=a_ (Lib.below_iterAt BW.out (k:=w.heap.size) (Nat.le_refl _) a0 (pos+(Utf8.decode a0 pos).2));obtain ⟨W1,hW1⟩:∃W1,W1=wr.iterAt w.heap.size a0 (pos+(Utf8.decode a0 pos).2):=⟨_,rfl⟩;rw [←hW1] at hnx hit2 hbw2;have hsy:=a_ (sym_decode a0 pos hp);have hst:=a_ (symFrom_step a0 pos hp);have hlo:(0:Int)≤((Utf8.decode a0 pos).1:Int):=by omega
  have hhi:((Utf8.decode a0 pos).1:Int)≤1114111:=by have:=Lib.rune_le a0 pos;omega
  have hp':=a_ hp;have hpos:=a_ hpos0;clear hW1 hit hp hpos0;generalize hc:((Utf8.decode a0 pos).1:Int)=c at hnx hlo hhi hsy;clear hc;by_cases g1:97≤c∧c≤122
  ·obtain ⟨g1,g2⟩:=g1;have k0:decide (97≤c)=true:=decide_eq_true (by omega)
   have k1:decide (c≤122)=true:=decide_eq_true (by omega)
   have ok:symOk c=true:=by simp [symOk];omega
   exact uaec_0
  have a1:(decide (97≤c)=true∧decide (c≤122)=false)∨decide (97≤c)=false:=by
   by_cases e1:97≤c
   ·exact .inl ⟨decide_eq_true e1,decide_eq_false (by omega)⟩
   ·exact .inr (decide_eq_false e1)
  by_cases g3:48≤c∧c≤57
  ·obtain ⟨g3,g4⟩:=g3;clear a1;have k0:decide (97≤c)=false:=decide_eq_false (by omega)
   have k1:decide (48≤c)=true:=decide_eq_true (by omega)
   have k2:decide (c≤57)=true:=decide_eq_true (by omega)
   have ok:symOk c=true:=by simp [symOk];omega
   exact uaec_0
  by_cases g5:c=45
  ·subst g5;clear a1;have k0:decide ((97:Int)≤45)=false:=decide_eq_false (by omega)
   have k1:decide ((48:Int)≤45)=false:=decide_eq_false (by omega)
   have ok:symOk 45=true:=by rfl
   exact uaec_0
  have k5:(c==45)=false:=beq_eq_false_iff_ne.mpr g5
  have a2:(decide (48≤c)=true∧decide (c≤57)=false)∨decide (48≤c)=false:=by
   by_cases e1:48≤c
   ·exact .inl ⟨decide_eq_true e1,decide_eq_false (by omega)⟩
   ·exact .inr (decide_eq_false e1)
  rcases a1 with ⟨k0,k1⟩|k0<;>rcases a2 with ⟨k2,k3⟩|k2
  all_goals
   have ok:symOk c=false:=by simp [symOk];omega
   have HO:=a_ ok;clear ok;go_wp2;go_ret;refine ⟨?_,hbw2.out⟩;have e1:=hsy.out.1;rw [HO.out] at e1;rw [MI.out,hst.out,←e1];rfl
 ·have e:pos=a0.size:=by have:=hle.out;omega
  have hnx:∀ty,(Instr.next (.pointer (some ⟨w.heap.size,0,none⟩)) true ty).run Tryz.prog wr=_:=fun ty=>Lib.run_next_end_at wr w.heap.size a0 pos ty hit hp
  have HE:=a_ e;clear e hpos0 hp;go_wp2;go_ret;refine ⟨?_,BW.out⟩;rw [MI.out,HE.out,symFrom_end];rfl
def wk_.f (a0:ByteArray):Option (Bool):=(xe_.f a0).bind fun t101=>(if t101=true then (some (a0.toList != ([110,111,116]:List UInt8))) else (some false))
theorem udc5_0 {p:Prop} (h:p:=by
 obtain rfl:=oi_ H;go_enter Tryz.func113,Tryz.ntmps113;go_wp2_with (first|((with_reducible refine zg_ (f:=67) rfl ?_);refine xf_ (some 4) rfl rfl Tryz.func67 (by kernel_rfl) rfl #[.string a0] rfl mw_ ?_;(with_reducible refine (xe_.calls a0 true _ A2.out).mono ?_);rintro e wx ⟨rfl,hb⟩;refine ⟨_,rfl,?_⟩;replace HB:=ms_ HB hb;(try clear hb))|((with_reducible refine zg_ (f:=67) rfl ?_);refine xf_ (some 4) rfl rfl Tryz.func67 (by kernel_rfl) rfl #[.string a0] rfl mw_ ?_;(with_reducible refine (xe_.calls a0 false _ A2.out).mono ?_);rintro e wx ⟨rfl,hb⟩;refine ⟨_,rfl,?_⟩;replace HB:=ms_ HB hb;(try clear hb)));go_ret;exact ⟨me_,mb_ HB⟩):p:=h
set_option maxHeartbeats 8000000 in
set_option maxRecDepth 100000 in
theorem wk_.calls (a0:ByteArray) (r:Bool) (w:World) (h:wk_.f a0=some r):
  Calls Tryz.prog 113 #[.string a0] w fun e w'=>e=.returned (.bool r)∧Below w.heap.size w w':=by
 have HB:=a_ (Below.refl w.heap.size w);have H:=h;unfold wk_.f at H
 clear h;obtain ⟨t101,A2,H⟩:=ob_ H;by_cases c3:t101=true
 ·subst c3;rw [if_pos rfl] at H;exact udc5_0
 ·replace c3:=Bool.eq_false_iff.mpr c3;subst c3;rw [if_neg (show ¬(false=true) by decide)] at H;exact udc5_0
open Go.Proofs.YtahambloheoebaaGreatDoorX in
def encTerm (x:S86):Value:=.agg #[.int .i64 (x).f0,.int .i64 (x).f1,.string (x).f2,.int .i64 (x).f3.f0,.int .i64 (x).f3.f1,.string (x).f3.f2]
open Go.Proofs.YtahambloheoebaaGreatDoorX in
set_option maxHeartbeats 2000000 in
set_option maxRecDepth 100000 in
theorem idxTerm.calls (g:Nat) (lb:Array Value) (eg:∀args w,(callFunc g args).run Tryz.prog w=.ok (.enter g args) w) (p:S86→Bool) (A:Option Addr) (c:Nat) (xs:List S86) (w:World)
  (hr:Kd.C k86 w A xs.length xs) (hc:xs.length≤c) (hm:xs.length≤bigN) (hp:PredB Tryz.prog g lb encTerm p xs w):
  Calls Tryz.prog 153 #[.slice A xs.length c,.func (.func g) #[] lb] w fun e w'=>e=.returned (.int .i64 (idxB p xs))∧Below w.heap.size w w':=by
 have hm:=le_of_bigN hm;have HR0:=a_ hr;have HC0:=a_ hc;have HP:=a_ hp;clear hr hc hp;go_enter Tryz.func153,Tryz.ntmps153;go_wp2;go_loopg [5,8] xs.length (fun gg _ s8 wr=>∃kk:Nat,kk≤xs.length∧xs.length-kk≤gg∧s8=.int .i64 kk∧z0_ (Below w.heap.size w wr)∧z0_ (∀j,j<kk→p (xs.getD j z86)=false))
 case atStart=>exact ⟨0,Nat.zero_le _,by omega,rfl,⟨Below.refl _ w⟩,⟨fun j hj=>absurd hj (Nat.not_lt_zero _)⟩⟩
 obtain ⟨kk,hkk,hg,rfl,BW,MI⟩:=hrel;by_cases hlt:kk<xs.length
 ·have hltz:(kk:Int)<(xs.length:Int):=by omega
  obtain ⟨ad,e0,hx0,hx1,hx2,hx3,hx4,hx5⟩:=at_T86 HR0.out (kk:Int) (by omega) hltz;cases e0;replace hx0:=(BW.out.cell (World.block_lt_of_cell? w _ hx0)).trans hx0;replace hx1:=(BW.out.cell (World.block_lt_of_cell? w _ hx1)).trans hx1;replace hx2:=(BW.out.cell (World.block_lt_of_cell? w _ hx2)).trans hx2;replace hx3:=(BW.out.cell (World.block_lt_of_cell? w _ hx3)).trans hx3;replace hx4:=(BW.out.cell (World.block_lt_of_cell? w _ hx4)).trans hx4;replace hx5:=(BW.out.cell (World.block_lt_of_cell? w _ hx5)).trans hx5;have hrd:z6_ xs (kk:Int)=xs.getD kk z86:=by simp [z6_]
  have hcall:=HP.out wr (xs.getD kk z86) (getD_mem hlt) BW.out;rw [hrd] at hx0 hx1 hx2 hx3 hx4 hx5;simp only [Int.toNat_natCast] at hx0 hx1 hx2 hx3 hx4 hx5;have HL:=a_ hlt;clear hrd;generalize hy:xs.getD kk z86=y at hx0 hx1 hx2 hx3 hx4 hx5 hcall;have HY:=a_ hy;clear hy;simp only [encTerm] at hcall;cases hq:p y with
  | true=>
   rw [hq] at hcall;have HQ:=a_ hq;have HH:=a_ hcall;clear hq hcall;go_wp2_with (go_at_fn g;refine HH.out.mono ?_;rintro e w' ⟨rfl,hb'⟩);go_ret;refine ⟨?_,below_then BW.out BW.out.size hb'⟩;rw [idxB_hit p xs kk z86 HL.out (by rw [HY.out];exact HQ.out) MI.out];rfl
  | false=>
   rw [hq] at hcall;have HQ:=a_ hq;have HH:=a_ hcall;clear hq hcall;go_wp2_with (go_at_fn g;refine HH.out.mono ?_;rintro e w' ⟨rfl,hb'⟩);go_roundg (xs.length-(kk+1))
   case measure=>omega
   case rel=>
    refine ⟨kk+1,by omega,by omega,by go_num,⟨below_then BW.out BW.out.size hb'⟩,⟨fun j hj=>?_⟩⟩;by_cases e:j=kk
    ·subst e;rw [HY.out];exact HQ.out
    ·exact MI.out j (by omega)
 ·have hltz:¬(kk:Int)<(xs.length:Int):=by omega
  have hk:kk=xs.length:=by omega
  have HK:=a_ hk;clear hk;go_wp2;go_ret;refine ⟨?_,BW.out⟩
  have hmiss:∀x,x∈xs→p x=false:=by
   intro x hx;obtain ⟨j,hj,e⟩:=List.getElem_of_mem hx;have:=MI.out j (by have:=HK.out;omega)
   rw [List.getD_eq_getElem?_getD,List.getElem?_eq_getElem hj] at this;rw [←e];exact this
  rw [idxB_miss p xs hmiss];rfl
open Go.Proofs.YtahambloheoebaaGreatDoorX in
set_option maxHeartbeats 2000000 in
set_option maxRecDepth 100000 in
theorem containsTerm.calls (g:Nat) (lb:Array Value) (eg:∀args w,(callFunc g args).run Tryz.prog w=.ok (.enter g args) w) (p:S86→Bool) (A:Option Addr) (c:Nat) (xs:List S86) (w:World)
  (hr:Kd.C k86 w A xs.length xs) (hc:xs.length≤c) (hm:xs.length≤bigN) (hp:PredB Tryz.prog g lb encTerm p xs w):
  Calls Tryz.prog 114 #[.slice A xs.length c,.func (.func g) #[] lb] w fun e w'=>e=.returned (.bool (xs.any p))∧Below w.heap.size w w':=by
 have hcall:=idxTerm.calls g lb eg p A c xs w hr hc hm hp;rw [←idxB_any];have HH:=a_ hcall;clear hcall hr hc hm hp;go_enter Tryz.func114,Tryz.ntmps114;go_wp2_with (go_at_call 153;refine HH.out.mono ?_;rintro e w' ⟨rfl,hb'⟩);go_ret;exact ⟨rfl,hb'⟩
def w5_.f (a0_0:Int) (a0_1:Int) (a0_2:ByteArray):Option (Bool):=if a0_0=0 then (some (a0_2.toList==([]:List UInt8))) else (if a0_0=1 then (if a0_1=0 then ((xe_.f a0_2).bind fun t103=>(some t103)) else (some false)) else (some false))
theorem u8c3_0 {p:Prop} (h:p:=by
 obtain rfl:=oi_ H;go_enter Tryz.func120,Tryz.ntmps120;go_wp2_with (first|((with_reducible refine zl_ (N:=1) rfl ?_);refine bh_ 1 #[.int .i64 a0_0,.int .i64 a0_1,.string a0_2] 80 HB ?_;intro gb102 hg wx BK102 GE102 hb;replace HB:=ms_ HB hb;clear hb hg;replace hz102:=cz3 BK102)|(go_at_call 67;(with_reducible refine (xe_.calls a0_2 t103 _ A7.out).mono ?_);rintro e wx ⟨rfl,hb⟩;replace BK102:=mk_ BK102 hb;replace HB:=ms_ HB hb;(try clear hb)));go_ret;exact ⟨me_,mb_ HB⟩):p:=h
set_option maxHeartbeats 8000000 in
set_option maxRecDepth 100000 in
theorem w5_.calls (a0_0:Int) (a0_1:Int) (a0_2:ByteArray) (r:Bool) (w:World) (h:w5_.f a0_0 a0_1 a0_2=some r):
  Calls Tryz.prog 120 #[.agg #[.int .i64 a0_0,.int .i64 a0_1,.string a0_2]] w fun e w'=>e=.returned (.bool r)∧Below w.heap.size w w':=by
 have hu80:=Tryz.underlying80;have HB:=a_ (Below.refl w.heap.size w);have H:=h;unfold w5_.f at H
 clear h;by_cases c2:a0_0=0
 ·rw [if_pos c2] at H;obtain ⟨c2b0,c2b1⟩:=bq_ c2;clear c2;exact u8c3_0
 ·rw [if_neg c2] at H;obtain ⟨c2b0,c2b1⟩:=bn_ c2;by_cases c5:a0_0=1
  ·rw [if_pos c5] at H;obtain ⟨c5b0,c5b1⟩:=bq_ c5;clear c5;by_cases c6:a0_1=0
   ·rw [if_pos c6] at H;obtain ⟨c6b0,c6b1⟩:=bq_ c6;clear c6;obtain ⟨t103,A7,H⟩:=ob_ H;exact u8c3_0
   ·rw [if_neg c6] at H;obtain ⟨c6b0,c6b1⟩:=bn_ c6;exact u8c3_0
  ·rw [if_neg c5] at H;obtain ⟨c5b0,c5b1⟩:=bn_ c5;exact u8c3_0
def goodValueB (v:S80):Bool:=(w5_.f v.f0 v.f1 v.f2).getD false
theorem goodValueB_some (v:S80):w5_.f v.f0 v.f1 v.f2=some (goodValueB v):=by
 unfold goodValueB
 have:∃r,w5_.f v.f0 v.f1 v.f2=some r:=by
  unfold w5_.f
  simp only [xe_.f,Option.bind_some];repeat' split
  all_goals exact ⟨_,rfl⟩
 obtain ⟨r,hr⟩:=this;rw [hr];rfl
open Go.Proofs.YtahambloheoebaaGreatDoorX
def zeroValB (v:S80):Bool:=v.f0==0&&(v.f1==0&&v.f2.toList.isEmpty)
def ym_ (t:S86):Bool:=
 if t.f0=0 then t.f1==0&&(t.f2.toList.isEmpty&&zeroValB t.f3)
 else if t.f0=1 then (t.f1==0&&t.f2.toList.isEmpty)&&goodValueB t.f3
 else if t.f0=2 then (t.f1==0&&zeroValB t.f3)&&xm_ t.f2
 else if t.f0=3 then if t.f1<1 then false else if 6<t.f1 then false else if t.f2.toList.isEmpty then goodValueB t.f3 else xm_ t.f2&&zeroValB t.f3
 else false
def impl_Term_good.f (a0_0 a0_1:Int) (a0_2:ByteArray) (a0_3 a0_4:Int) (a0_5:ByteArray):Option Bool:=some (ym_ ⟨a0_0,a0_1,a0_2,⟨a0_3,a0_4,a0_5⟩⟩)
theorem ne_tf {x y:Int} (h:x≠y):(x==y)=false:=beq_eq_false_iff_ne.mpr h
theorem u030_0 {p:Prop} (h:p:=by
 go_enter Tryz.func116,Tryz.ntmps116;go_wp2;all_goals go_ret
 all_goals exact ⟨by first|rfl|(simp;done)|(simp [*];done)|(simp_all;done),by repeat (first|exact HB.out|apply below_drew|apply z3_)⟩):p:=h
set_option maxHeartbeats 8000000 in
set_option maxRecDepth 100000 in
theorem impl_Term_good.calls (a0_0 a0_1:Int) (a0_2:ByteArray) (a0_3 a0_4:Int) (a0_5:ByteArray) (r:Bool) (w:World) (h:impl_Term_good.f a0_0 a0_1 a0_2 a0_3 a0_4 a0_5=some r):
  Calls Tryz.prog 116 #[.agg #[.int .i64 a0_0,.int .i64 a0_1,.string a0_2,.int .i64 a0_3,.int .i64 a0_4,.string a0_5]] w fun e w'=>e=.returned (.bool r)∧Below w.heap.size w w':=by
 have h:=Option.some.inj h;subst h;have hu:=Tryz.underlying86;have hu1:=Tryz.underlying80;have HB:=a_ (Below.refl w.heap.size w);have HV:=a_ (goodValueB_some ⟨a0_3,a0_4,a0_5⟩);have HS:z0_ (xe_.f a0_2=some (xm_ a0_2)):=⟨rfl⟩
 by_cases k0:a0_0=0
 ·subst k0;rw [show ym_ _=(a0_1==0&&(a0_2.toList.isEmpty&&(a0_3==0&&(a0_4==0&&a0_5.toList.isEmpty)))) by simp [ym_,zeroValB]];exact u030_0
 have q0:=ne_tf k0;by_cases k1:a0_0=1
 ·subst k1;by_cases e1:a0_1=0
  ·subst e1;cases e2:a0_2.toList.isEmpty with
   | true=>
    rw [show ym_ _=goodValueB ⟨a0_3,a0_4,a0_5⟩ by simp [ym_,e2]];go_enter Tryz.func116,Tryz.ntmps116;go_wp2_with (go_at_call 120;refine (w5_.calls _ _ _ _ _ HV.out).mono ?_;rintro e w' ⟨rfl,hd⟩);all_goals go_ret
    all_goals exact ⟨by first|rfl|(simp;done)|(simp [*];done)|(simp_all;done),Below.trans (by repeat (first|exact HB.out|apply below_drew|apply z3_)) (hd.mono (by simp;omega))⟩
   | false=>
    rw [show ym_ _=false by simp [ym_,e2]];go_enter Tryz.func116,Tryz.ntmps116;go_wp2;all_goals go_ret
    all_goals exact ⟨by first|rfl|(simp;done)|(simp [*];done)|(simp_all;done),by repeat (first|exact HB.out|apply below_drew|apply z3_)⟩
  ·have p1:=ne_tf e1;rw [show ym_ _=false by simp [ym_,e1]];exact u030_0
 have q1:=ne_tf k1;by_cases k2:a0_0=2
 ·subst k2;by_cases e1:a0_1=0
  ·subst e1;by_cases e3:a0_3=0
   ·subst e3;by_cases e4:a0_4=0
    ·subst e4;cases e5:a0_5.toList.isEmpty with
     | true=>
      rw [show ym_ _=xm_ a0_2 by simp [ym_,zeroValB,e5]];go_enter Tryz.func116,Tryz.ntmps116;go_wp2_with (go_at_call 67;refine (xe_.calls _ _ _ HS.out).mono ?_;rintro e w' ⟨rfl,hd⟩);all_goals go_ret
      all_goals exact ⟨by first|rfl|(simp;done)|(simp [*];done)|(simp_all;done),Below.trans (by repeat (first|exact HB.out|apply below_drew|apply z3_)) (hd.mono (by simp;omega))⟩
     | false=>
      rw [show ym_ _=false by simp [ym_,zeroValB,e5]];go_enter Tryz.func116,Tryz.ntmps116;go_wp2;all_goals go_ret
      all_goals exact ⟨by first|rfl|(simp;done)|(simp [*];done)|(simp_all;done),by repeat (first|exact HB.out|apply below_drew|apply z3_)⟩
    ·have p4:=ne_tf e4;rw [show ym_ _=false by simp [ym_,zeroValB,e4]];exact u030_0
   ·have p3:=ne_tf e3;rw [show ym_ _=false by simp [ym_,zeroValB,e3]];exact u030_0
  ·have p1:=ne_tf e1;rw [show ym_ _=false by simp [ym_,zeroValB,e1]];exact u030_0
 have q2:=ne_tf k2;by_cases k3:a0_0=3
 ·subst k3;by_cases e1:a0_1<1
  ·have p1:decide (a0_1<1)=true:=decide_eq_true e1
   rw [show ym_ _=false by simp [ym_,e1]];exact u030_0
  have p1:decide (a0_1<1)=false:=decide_eq_false e1
  by_cases e2:6<a0_1
  ·have p2:decide (6<a0_1)=true:=decide_eq_true e2
   rw [show ym_ _=false by simp [ym_,e1,e2]];exact u030_0
  have p2:decide (6<a0_1)=false:=decide_eq_false e2
  cases e3:a0_2.toList.isEmpty with
  | true=>
   rw [show ym_ _=goodValueB ⟨a0_3,a0_4,a0_5⟩ by simp [ym_,e1,e2,e3]];go_enter Tryz.func116,Tryz.ntmps116;go_wp2_with (go_at_call 120;refine (w5_.calls _ _ _ _ _ HV.out).mono ?_;rintro e w' ⟨rfl,hd⟩);all_goals go_ret
   all_goals exact ⟨by first|rfl|(simp;done)|(simp [*];done)|(simp_all;done),Below.trans (by repeat (first|exact HB.out|apply below_drew|apply z3_)) (hd.mono (by simp;omega))⟩
  | false=>
   cases e4:xm_ a0_2 with
   | true=>
    rw [e4] at HS;rw [show ym_ _=(a0_3==0&&(a0_4==0&&a0_5.toList.isEmpty)) by simp [ym_,zeroValB,e1,e2,e3,e4]];go_enter Tryz.func116,Tryz.ntmps116;go_wp2_with (go_at_call 67;refine (xe_.calls _ _ _ HS.out).mono ?_;rintro e w' ⟨rfl,hd⟩;obtain ⟨hc1,hf1⟩:=cellsBelow hd rfl);all_goals go_ret
    all_goals exact ⟨by first|rfl|(simp;done)|(simp [*];done)|(simp_all;done),Below.trans (by repeat (first|exact HB.out|apply below_drew|apply z3_)) (hd.mono (by simp;omega))⟩
   | false=>
    rw [e4] at HS;rw [show ym_ _=false by simp [ym_,e1,e2,e3,e4]];go_enter Tryz.func116,Tryz.ntmps116;go_wp2_with (go_at_call 67;refine (xe_.calls _ _ _ HS.out).mono ?_;rintro e w' ⟨rfl,hd⟩);all_goals go_ret
    all_goals exact ⟨by first|rfl|(simp;done)|(simp [*];done)|(simp_all;done),Below.trans (by repeat (first|exact HB.out|apply below_drew|apply z3_)) (hd.mono (by simp;omega))⟩
 have q3:=ne_tf k3;rw [show ym_ _=false by simp [ym_,k0,k1,k2,k3]];exact u030_0
theorem goodTermB_some (v:S86):impl_Term_good.f v.f0 v.f1 v.f2 v.f3.f0 v.f3.f1 v.f3.f2=some (ym_ v):=rfl
open Go.Proofs.YtahambloheoebaaGreatDoorX in
set_option maxHeartbeats 2000000 in
set_option maxRecDepth 100000 in
theorem badTerm.calls (v:S86) (w:World):
  Calls Tryz.prog 115 (#[encTerm v]++#[]) w fun e w'=>e=.returned (.bool (!ym_ v))∧Below w.heap.size w w':=by
 have hu:=Tryz.underlying86;have HB:=a_ (Below.refl w.heap.size w);have ea:#[encTerm v]++#[]=#[.agg #[.int .i64 (v).f0,.int .i64 (v).f1,.string (v).f2,.int .i64 (v).f3.f0,.int .i64 (v).f3.f1,.string (v).f3.f2]]:=rfl
 rw [ea];clear ea;have hg:=goodTermB_some v;have HG:=a_ hg;clear hg;go_enter Tryz.func115,Tryz.ntmps115;go_wp2_with (go_at_call 116;refine (impl_Term_good.calls _ _ _ _ _ _ _ _ HG.out).mono ?_;rintro e w' ⟨rfl,hd⟩);go_ret;exact ⟨rfl,Below.trans (by repeat (first|exact HB.out|apply z3_)) (hd.mono (by simp))⟩
open Go.Proofs.YtahambloheoebaaGreatDoorX in
def goodClsB (s:ByteArray):Bool:=xm_ s&&(s.toList != ([110,111,116]:List UInt8))
theorem goodCls_some (s:ByteArray):wk_.f s=some (goodClsB s):=by
 unfold wk_.f xe_.f goodClsB
 simp only [Option.bind_some];cases Go.Proofs.YtahambloheoebaaGreatDoorX.xm_ s<;>rfl
def wo_ (cls:ByteArray) (ts:List S86):Bool:=goodClsB cls&&(decide (ts.length≤6)&&ts.all ym_)
def xn_.f (a0_0:Bool) (a0_1:ByteArray) (l0_2:List S86):Option Bool:=some (wo_ a0_1 l0_2)
open Go.Proofs.YtahambloheoebaaGreatDoorX in
set_option maxHeartbeats 4000000 in
set_option maxRecDepth 100000 in
theorem xn_.calls (a0_0:Bool) (a0_1:ByteArray) (A0_2:Option Addr) (c0_2:Nat) (l0_2:List S86) (r:Bool) (w:World) (hr0_2:Kd.C k86 w A0_2 l0_2.length l0_2) (hc0_2:l0_2.length≤c0_2) (h:xn_.f a0_0 a0_1 l0_2=some r):
  Calls Tryz.prog 64 #[.agg #[.bool a0_0,.string a0_1,.slice A0_2 l0_2.length c0_2]] w fun e w'=>e=.returned (.bool r)∧Below w.heap.size w w':=by
 have h:=Option.some.inj h;subst h;have hu:=Tryz.underlying42;have HB:=a_ (Below.refl w.heap.size w);have HR:=a_ hr0_2;have HC:=a_ hc0_2;have HG:=a_ (goodCls_some a0_1);clear hr0_2 hc0_2;have hu0:=Tryz.underlying86;cases h0:goodClsB a0_1 with
 | true=>
  rw [h0] at HG;by_cases h1:l0_2.length≤6
  ·have q1:decide ((l0_2.length:Int)≤6)=true:=decide_eq_true (by omega)
   have HM:=a_ (show l0_2.length≤bigN by unfold bigN;omega)
   have hv:wo_ a0_1 l0_2 = !(l0_2.any fun v=>!ym_ v):=by
    unfold wo_
    rw [h0,decide_eq_true h1,Bool.true_and,Bool.true_and,List.not_any_eq_all_not];congr 1
    funext v
    simp
   rw [hv];clear h0 h1 hv;go_enter Tryz.func64,Tryz.ntmps64
   go_wp2_with (first
    | (go_at_call 113;refine (wk_.calls _ _ _ HG.out).mono ?_;rintro e w1 ⟨rfl,hd⟩;obtain ⟨hc1,hf1⟩:=cellsBelow hd rfl)
    | (go_at_call 114;refine (containsTerm.calls 115 _ (enters_of Tryz.func115 (by kernel_rfl) rfl) (fun v=>!ym_ v) _ _ l0_2 _ ?hr HC.out HM.out ?hp).mono ?hk))
   case hr=>exact Kd.xo_ HR.out (Below.trans (by repeat (first|exact HB.out|apply z3_)) (hd.mono (by first|(simp;done)|(simp;omega))))
   case hp=>exact fun W x _ _=>badTerm.calls x W
   case hk=>
    first|rintro e w2 ⟨rfl,hd2⟩|rintro e w2 rfl hd2
    go_wp2;go_ret;exact ⟨rfl,Below.trans (Below.trans (by repeat (first|exact HB.out|apply z3_)) (hd.mono (by first|(simp;done)|(simp;omega)))) (hd2.mono (by have:=hd.size;simp at this;omega))⟩
  ·have q1:decide ((l0_2.length:Int)≤6)=false:=decide_eq_false (by omega)
   have hv:wo_ a0_1 l0_2=false:=by unfold wo_;rw [h0,decide_eq_false h1];rfl
   rw [hv];clear h0 h1 hv;go_enter Tryz.func64,Tryz.ntmps64;go_wp2_with (go_at_call 113;refine (wk_.calls _ _ _ HG.out).mono ?_;rintro e w1 ⟨rfl,hd⟩;obtain ⟨hc1,hf1⟩:=cellsBelow hd rfl);go_ret;exact ⟨rfl,Below.trans (by repeat (first|exact HB.out|apply z3_)) (hd.mono (by first|(simp;done)|(simp;omega)))⟩
 | false=>
  rw [h0] at HG;have hv:wo_ a0_1 l0_2=false:=by unfold wo_;rw [h0];rfl
  rw [hv];clear h0 hv;go_enter Tryz.func64,Tryz.ntmps64;go_wp2_with (go_at_call 113;refine (wk_.calls _ _ _ HG.out).mono ?_;rintro e w1 ⟨rfl,hd⟩;obtain ⟨hc1,hf1⟩:=cellsBelow hd rfl);go_ret;exact ⟨rfl,Below.trans (by repeat (first|exact HB.out|apply z3_)) (hd.mono (by first|(simp;done)|(simp;omega)))⟩
theorem eqA80 (d:Nat) (w:World) (x0 y0:Int) (x1 y1:Int) (x2 y2:ByteArray):
  (Op.equalIn (d+2) 80 (.agg #[.int .i64 x0,.int .i64 x1,.string x2]) (.agg #[.int .i64 y0,.int .i64 y1,.string y2])).run Tryz.prog w=.ok (x0==y0&&(x1==y1&&(x2.toList==y2.toList))) w:=by
 refine eqA_of Tryz.underlying80 (by kernel_rfl) ?_;refine eqf_cons (by rfl) (by go_simp;rfl) (by go_simp;rfl) (by go_simp) ?_;refine eqf_cons (by rfl) (by go_simp;rfl) (by go_simp;rfl) (by go_simp) ?_;exact eqf_last (by rfl) (by go_simp;rfl) (by go_simp;rfl) (by go_simp)
def TreesV (w:World) (b base:Nat) (vF vD:Value) (fs ds:List Int):Prop:=
 w.heap[b]?=some (.cells #[vF,vD] 214 (0,0))∧w.ownsRow base 3 1 vF fs.length (nums .i64 fs)∧w.ownsRow base 3 1 vD ds.length (nums .i64 ds)∧NeRow vF vD
def Trees (w:World) (b base:Nat) (fs ds:List Int):Prop:=∃vF vD,TreesV w b base vF vD fs ds
def KeepT (w w':World):Prop:=w.heap.size≤w'.heap.size∧∀(g:Nat) (t:TypeId) (cs:Array Value),t≠214→t≠3→w.heap[g]?=some (.cells cs t (0,0))→w'.heap[g]?=some (.cells cs t (0,0))
theorem KeepT.trans {a b c:World} (h:KeepT a b) (k:KeepT b c):KeepT a c:=⟨Nat.le_trans h.1 k.1,fun g t cs h1 h2 h3=>k.2 g t cs h1 h2 (h.2 g t cs h1 h2 h3)⟩
theorem KeepT.below {w w':World} (h:Below w.heap.size w w'):KeepT w w':=⟨h.size,fun _ _ _ _ _ h3=>zd_ h3 h⟩
theorem KeepT.grown {w w':World} {base n:Nat} {v:Value} {xs:List Value} (ho:w.ownsRow base 3 1 v n xs) (hg:w.grownBy w' v.ownBlock):KeepT w w':=
 ⟨hg.size,fun g t cs _ h2 h3=>zk_ h3 hg (own_ne ho h3 (Ne.symm h2))⟩
theorem KeepT.set {w:World} {b:Nat} {cs:Array Value} (hb:w.heap[b]?=some (.cells cs 214 (0,0))) (j:Nat) (u:Value):KeepT w (w.setCell ⟨b,j,none⟩ u):=by
 refine ⟨by simp,fun g t cs' h1 h2 h3=>blk_far h3 (p:=⟨b,j,none⟩) ?_ u⟩;exact blk_ne h3 hb h1
theorem ev_new {a b:Nat} (h:a=b):Value.slice (some ⟨a,0,none⟩) 1 1=Value.slice (some ⟨b,0,none⟩) 1 1:=by rw [h]
theorem own_readsI {w:World} {base n c:Nat} {e:TypeId} {k:IntKind} {A:Option Addr} {xs:List Int} (h:w.ownsRow base e 1 (.slice A n c) n (nums k xs)):ReadsInt w k A n xs:=own_reads' h
theorem own_form {w:World} {base n:Nat} {e:TypeId} {size:Nat} {v:Value} {xs:List Value} (h:w.ownsRow base e size v n xs):∃A m c,v=.slice A m c∧z0_ (m=n):=by
 obtain ⟨A,c,h⟩:=own_slice h;exact ⟨A,n,c,h,⟨rfl⟩⟩
def exEq (x0 y0 x1 y1:Int) (x2 y2:ByteArray) (x3 y3 x4 y4:Int) (x5 y5:ByteArray) (x6 y6 x7 y7:Int):Bool:=
 x0==y0&&(x1==y1&&(x2.toList==y2.toList&&((x3==y3&&(x4==y4&&(x5.toList==y5.toList)))&&(x6==y6&&x7==y7))))
theorem eqExpr (d:Nat) (w:World) (x0 y0 x1 y1:Int) (x2 y2:ByteArray) (x3 y3 x4 y4:Int) (x5 y5:ByteArray) (x6 y6 x7 y7:Int):
  (Op.equalIn (d+3) 161 (.agg #[.int .i64 x0,.int .u8 x1,.string x2,.int .i64 x3,.int .i64 x4,.string x5,.int .i64 x6,.int .i64 x7]) (.agg #[.int .i64 y0,.int .u8 y1,.string y2,.int .i64 y3,.int .i64 y4,.string y5,.int .i64 y6,.int .i64 y7])).run Tryz.prog w=.ok (exEq x0 y0 x1 y1 x2 y2 x3 y3 x4 y4 x5 y5 x6 y6 x7 y7) w:=by
 unfold exEq
 refine eqA_of Tryz.underlying161 (by kernel_rfl) ?_;refine eqf_cons (by rfl) (by first|(go_simp;done)|(go_simp;rfl)) (by first|(go_simp;done)|(go_simp;rfl)) (by go_simp) ?_;refine eqf_cons (by rfl) (by first|(go_simp;done)|(go_simp;rfl)) (by first|(go_simp;done)|(go_simp;rfl)) (by go_simp) ?_;refine eqf_cons (by rfl) (by first|(go_simp;done)|(go_simp;rfl)) (by first|(go_simp;done)|(go_simp;rfl)) (by go_simp) ?_;refine eqf_cons (by rfl) (by first|(go_simp;done)|(go_simp;rfl)) (by first|(go_simp;done)|(go_simp;rfl)) (eqA80 d w _ _ _ _ _ _) ?_;refine eqf_cons (by rfl) (by first|(go_simp;done)|(go_simp;rfl)) (by first|(go_simp;done)|(go_simp;rfl)) (by go_simp) ?_;exact eqf_last (by rfl) (by first|(go_simp;done)|(go_simp;rfl)) (by first|(go_simp;done)|(go_simp;rfl)) (by go_simp)
def onlyC (e:S161):Bool:=exEq e.f0 0 e.f1 0 e.f2 ⟨#[]⟩ e.f3.f0 e.f3.f0 e.f3.f1 e.f3.f1 e.f3.f2 e.f3.f2 e.f4 0 e.f5 0
def onlyV (e:S161):Bool:=exEq e.f0 1 e.f1 0 e.f2 e.f2 e.f3.f0 0 e.f3.f1 0 e.f3.f2 ⟨#[]⟩ e.f4 0 e.f5 0
def onlyO (e:S161):Bool:=exEq e.f0 2 e.f1 e.f1 e.f2 ⟨#[]⟩ e.f3.f0 0 e.f3.f1 0 e.f3.f2 ⟨#[]⟩ e.f4 e.f4 e.f5 e.f5
def arIdx (c:Int):Int:=Lib.indexByte [43,45,42,47,37] c.toNat.toUInt8
def arithB (c:Int):Bool:=decide (0≤arIdx c)
theorem arIdx_calls (c:Int) (w:World):Calls Tryz.prog 179 #[.string (⟨#[43,45,42,47,37]⟩:ByteArray),.int .u8 c] w fun e w'=>e=.returned (.int .i64 (arIdx c))∧w'=w:=Tryz.strings_IndexByte _ c w
theorem mx_lt {a b:Int} (h:a<b):mx a b=b:=if_pos h
theorem mx_ge {a b:Int} (h:¬a<b):mx a b=a:=if_neg h
def w4_.f (es:List S161) (fs ds:List Int):Option (Bool×List Int×List Int):=
 if es.length≤60∧fs.length<es.length∧ds.length=fs.length then
  (fun e:S161=>
   if e.f0=0 then some (onlyC e&&goodValueB e.f3,fs++[(fs.length:Int)],ds++[0])
   else if e.f0=1 then some (onlyV e&&xm_ e.f2,fs++[(fs.length:Int)],ds++[0])
   else if e.f0=2 then
    if onlyO e=true∧arithB e.f1=true∧e.f5=(fs.length:Int)-1∧0≤e.f5∧0≤e.f4 then
     if 0≤rd fs e.f5∧rd fs e.f5≤64 then
      if e.f4=rd fs e.f5-1 then
       if e.f4<(fs.length:Int)∧0≤rd ds e.f4∧rd ds e.f4≤64∧0≤rd ds e.f5∧rd ds e.f5≤64 then
        some (decide (1+mx (rd ds e.f4) (rd ds e.f5)≤20),fs++[rd fs e.f4],ds++[1+mx (rd ds e.f4) (rd ds e.f5)])
       else none
      else some (false,fs++[(fs.length:Int)],ds++[0])
     else none
    else some (false,fs++[(fs.length:Int)],ds++[0])
   else some (false,fs++[(fs.length:Int)],ds++[0])) (z2_ es (fs.length:Int))
 else none
attribute [local go_sem high] eqExpr
theorem u01d_2 {p:Prop} (h:p:=by
 exact ⟨by first|rfl|(simp;done),⟨_,_,wt_ B3.out 1 _ rfl,xl_ F3.out (own_ne F3.out B3.out (by decide)) _,xl_ O3.out (own_ne O3.out B3.out (by decide)) _,N3.out⟩,zu_ HB3.out HWB.out,(K3.out).trans (KeepT.set B3.out _ _)⟩):p:=h
theorem u01d_1 {p:Prop} (h:p:=by
 go_wp2_with (first
  | (at_builtin;refine xk_ (w0:=w0) w0.heap.size rfl (.tmp 127) (.tmp 129) 43 3 .i64 8 rfl Tryz.underlying43 info3 (by decide) (.slice AF fs.length cF) fs ((fs.length:Int)) rfl (ev_new (by first|rfl|(simp;done))) OF.out HBQ.out (zw_ HBQ.out) (by have:=L60.out;omega) ?_;intro v1 w1 ho1 hb1 hg1 hat1;obtain ⟨A1,m1,c1,ev1,M1⟩:=own_form ho1;subst ev1;have B1:=zk_ BQ.out hg1 (own_ne OF.out BQ.out (by decide));have hd0:=(z1_ B1 0).trans rfl;have hd1:=(z1_ B1 1).trans rfl;have he0:=zf_ B1 0;have he1:=zf_ B1 1;simp only [List.getElem?_toArray,List.getElem?_cons_zero,List.getElem?_cons_succ] at hd0 hd1;have B2:=a_ (wt_ (cs':=#[.slice A1 m1 c1,.slice (AD) ds.length cD]) B1 0 (.slice A1 m1 c1) rfl);have F2:=a_ (xl_ (p:=⟨b,0,none⟩) ho1 (own_ne ho1 B1 (by decide)) (.slice A1 m1 c1));have O1:=own_other OD.out hg1 (ne_other NE.out);have O2:=a_ (xl_ (p:=⟨b,0,none⟩) O1 (own_ne O1 B1 (by decide)) (.slice A1 m1 c1));have HB2:=a_ (zu_ (j:=0) (v:=.slice A1 m1 c1) hb1 HWB.out);have K2:=a_ ((KQ.out.trans (KeepT.grown OF.out hg1)).trans (KeepT.set B1 0 (.slice A1 m1 c1)));have N2:=a_ (ne_append NE.out hat1 OD.out);clear B1 O1 ho1 hb1 hg1 hat1)
  | (at_builtin;refine xk_ (w0:=w0) w0.heap.size rfl (.tmp 137) (.tmp 139) 43 3 .i64 8 rfl Tryz.underlying43 info3 (by decide) (.slice AD ds.length cD) ds (0) rfl (ev_new (by first|rfl|(simp;done))) O2.out HB2.out (zw_ HB2.out) (by have:=L60.out;omega) ?_;intro v2 w2 ho2 hb2 hg2 hat2;obtain ⟨A2,m2,c2,ev2,M2⟩:=own_form ho2;subst ev2;have B3:=a_ (zk_ B2.out hg2 (own_ne O2.out B2.out (by decide)));have hg0:=(z1_ B3.out 1).trans rfl;have hh1:=zf_ B3.out 1;simp only [List.getElem?_toArray,List.getElem?_cons_zero,List.getElem?_cons_succ] at hg0;have F3:=a_ (own_other F2.out hg2 (ne_other (ne_symm N2.out)));have O3:=a_ ho2;have HB3:=a_ hb2;have K3:=a_ (K2.out.trans (KeepT.grown O2.out hg2));have N3:=a_ (ne_append' N2.out hat2 F2.out);clear ho2 hb2 hg2 hat2))
 go_ret;exact u01d_2):p:=h
theorem u01d_0 {p:Prop} (h:p:=by
 go_enter Tryz.func151,Tryz.ntmps151;go_wp2;go_quiet ((go_at_call 179;exact Calls.quiet_of_same (arIdx_calls x.f1 _)))
 generalize hgq:(w.alloc (.cells #[.int .i64 2,.int .u8 x.f1,.string x.f2,.int .i64 x.f3.f0,.int .i64 x.f3.f1,.string x.f3.f2,.int .i64 x.f4,.int .i64 x.f5] 161)).drewN nq=wq;have BQ:=a_ (blk_at hgq (z5_ HT.out.1 (.cells #[.int .i64 2,.int .u8 x.f1,.string x.f2,.int .i64 x.f3.f0,.int .i64 x.f3.f1,.string x.f3.f2,.int .i64 x.f4,.int .i64 x.f5] 161)));have BX:=a_ (blk_at hgq (wh_ w (.cells #[.int .i64 2,.int .u8 x.f1,.string x.f2,.int .i64 x.f3.f0,.int .i64 x.f3.f1,.string x.f3.f2,.int .i64 x.f4,.int .i64 x.f5] 161)));have OF:=a_ (w2_ HT.out.2.1 (ws_ hgq (z3_ (Below.refl _ w) (.cells #[.int .i64 2,.int .u8 x.f1,.string x.f2,.int .i64 x.f3.f0,.int .i64 x.f3.f1,.string x.f3.f2,.int .i64 x.f4,.int .i64 x.f5] 161))));have OD:=a_ (w2_ HT.out.2.2.1 (ws_ hgq (z3_ (Below.refl _ w) (.cells #[.int .i64 2,.int .u8 x.f1,.string x.f2,.int .i64 x.f3.f0,.int .i64 x.f3.f1,.string x.f3.f2,.int .i64 x.f4,.int .i64 x.f5] 161))));have HBQ:=a_ (ws_ hgq (z3_ HB.out (.cells #[.int .i64 2,.int .u8 x.f1,.string x.f2,.int .i64 x.f3.f0,.int .i64 x.f3.f1,.string x.f3.f2,.int .i64 x.f4,.int .i64 x.f5] 161)));have KQ:=a_ (KeepT.below (ws_ hgq (z3_ (Below.refl _ w) (.cells #[.int .i64 2,.int .u8 x.f1,.string x.f2,.int .i64 x.f3.f0,.int .i64 x.f3.f1,.string x.f3.f2,.int .i64 x.f4,.int .i64 x.f5] 161))));clear hgq;have hq0z:=(z1_ BQ.out 0).trans rfl;have hq1z:=(z1_ BQ.out 1).trans rfl;have ha4z:=(z1_ BX.out 6).trans rfl;have ha5z:=(z1_ BX.out 7).trans rfl;simp only [List.getElem?_toArray,List.getElem?_cons_zero,List.getElem?_cons_succ] at hq0z hq1z ha4z ha5z;exact u01d_1):p:=h
set_option maxHeartbeats 8000000 in
set_option maxRecDepth 100000 in
theorem w4_.calls (A3:Option Addr) (c3:Nat) (es:List S161) (b:Nat) (fs ds fs' ds':List Int) (r:Bool) (w0 w:World) (hb:Below w0.heap.size w0 w) (hr:Kd.C k161 w0 A3 es.length es) (hc:es.length≤c3) (ht:Trees w b w0.heap.size fs ds) (hwb:w0.heap.size≤b) (h:w4_.f es fs ds=some (r,fs',ds')):
  Calls Tryz.prog 151 #[.pointer (some ⟨b,0,none⟩),.slice A3 es.length c3] w fun e w'=>e=.returned (.bool r)∧Trees w' b w0.heap.size fs' ds'∧Below w0.heap.size w0 w'∧KeepT w w':=by
 have hu:=Tryz.underlying214;have hu1:=Tryz.underlying161;have hu2:=Tryz.underlying80;obtain ⟨vF,vD,ht⟩:=ht;have HT:=a_ ht;clear ht;have NE:=a_ HT.out.2.2.2;have HB:=a_ hb;have HR:=a_ hr;have HC:=a_ hc;have HWB:=a_ hwb;clear hb hr hc hwb;have hbl:=blk_lt HT.out.1;unfold w4_.f at h
 by_cases c0:es.length≤60∧fs.length<es.length∧ds.length=fs.length
 case neg=>
  rw [if_neg c0] at h;cases h
 rw [if_pos c0] at h;obtain ⟨c60,hlt,hdl⟩:=c0;have L60:z0_ (es.length≤60∧fs.length<es.length∧ds.length=fs.length):=⟨c60,hlt,hdl⟩
 have hz:(fs.length:Int)<(es.length:Int):=by omega
 have hz0:(0:Int)≤(fs.length:Int):=by omega
 have hz1:(fs.length:Int)≤60:=by omega
 clear hdl;obtain ⟨ad,e0,hx0,hx1,hx2,hx3,hx4,hx5,hx6,hx7⟩:=at_T161 HR.out (fs.length:Int) hz0 hz;cases e0;replace hx0:=(HB.out.cell (World.block_lt_of_cell? w0 _ hx0)).trans hx0;replace hx1:=(HB.out.cell (World.block_lt_of_cell? w0 _ hx1)).trans hx1;replace hx2:=(HB.out.cell (World.block_lt_of_cell? w0 _ hx2)).trans hx2;replace hx3:=(HB.out.cell (World.block_lt_of_cell? w0 _ hx3)).trans hx3;replace hx4:=(HB.out.cell (World.block_lt_of_cell? w0 _ hx4)).trans hx4;replace hx5:=(HB.out.cell (World.block_lt_of_cell? w0 _ hx5)).trans hx5;replace hx6:=(HB.out.cell (World.block_lt_of_cell? w0 _ hx6)).trans hx6;replace hx7:=(HB.out.cell (World.block_lt_of_cell? w0 _ hx7)).trans hx7;simp only [Int.toNat_natCast] at hx0 hx1 hx2 hx3 hx4 hx5 hx6 hx7;obtain ⟨AF,cF,eF⟩:=own_slice HT.out.2.1;subst eF;obtain ⟨AD,cD,eD⟩:=own_slice HT.out.2.2.1;subst eD;have hq0:=(z1_ HT.out.1 0).trans rfl;have hq1:=(z1_ HT.out.1 1).trans rfl;simp only [List.getElem?_toArray,List.getElem?_cons_zero,List.getElem?_cons_succ] at hq0 hq1;replace h:(fun e:S161=>_) (z2_ es (fs.length:Int))=some (r,fs',ds'):=h
 generalize z2_ es (fs.length:Int)=x at *;simp only [] at h;have OV:z0_ (w5_.f x.f3.f0 x.f3.f1 x.f3.f2=some (goodValueB x.f3)):=⟨goodValueB_some x.f3⟩
 have OS:z0_ (xe_.f x.f2=some (xm_ x.f2)):=⟨rfl⟩
 by_cases k0:x.f0=0
 ·rw [if_pos k0] at h
  obtain ⟨rfl,rfl,rfl⟩:r=(onlyC x&&goodValueB x.f3)∧fs'=fs++[(fs.length:Int)]∧ds'=ds++[0]:=by
   have:=Option.some.inj h
   simp only [Prod.mk.injEq] at this;exact ⟨this.1.symm,this.2.1.symm,this.2.2.symm⟩
  clear h;rw [k0] at hx0;cases hC:onlyC x with
  | false=>
   have hC':exEq 0 0 x.f1 0 x.f2 ⟨#[]⟩ x.f3.f0 x.f3.f0 x.f3.f1 x.f3.f1 x.f3.f2 x.f3.f2 x.f4 0 x.f5 0=false:=by rw [←hC,onlyC,k0]
   clear hC k0;have BQ:=a_ (z5_ HT.out.1 (.cells #[.int .i64 0,.int .u8 x.f1,.string x.f2,.int .i64 x.f3.f0,.int .i64 x.f3.f1,.string x.f3.f2,.int .i64 x.f4,.int .i64 x.f5] 161));have OF:=a_ (own_alloc HT.out.2.1 (.cells #[.int .i64 0,.int .u8 x.f1,.string x.f2,.int .i64 x.f3.f0,.int .i64 x.f3.f1,.string x.f3.f2,.int .i64 x.f4,.int .i64 x.f5] 161));have OD:=a_ (own_alloc HT.out.2.2.1 (.cells #[.int .i64 0,.int .u8 x.f1,.string x.f2,.int .i64 x.f3.f0,.int .i64 x.f3.f1,.string x.f3.f2,.int .i64 x.f4,.int .i64 x.f5] 161));have HBQ:=a_ (z3_ HB.out (.cells #[.int .i64 0,.int .u8 x.f1,.string x.f2,.int .i64 x.f3.f0,.int .i64 x.f3.f1,.string x.f3.f2,.int .i64 x.f4,.int .i64 x.f5] 161));have KQ:=a_ (KeepT.below (z3_ (Below.refl _ w) (.cells #[.int .i64 0,.int .u8 x.f1,.string x.f2,.int .i64 x.f3.f0,.int .i64 x.f3.f1,.string x.f3.f2,.int .i64 x.f4,.int .i64 x.f5] 161)));go_enter Tryz.func151,Tryz.ntmps151
   go_wp2_with (first
    | (at_builtin;refine xk_ (w0:=w0) w0.heap.size rfl (.tmp 127) (.tmp 129) 43 3 .i64 8 rfl Tryz.underlying43 info3 (by decide) (.slice AF fs.length cF) fs ((fs.length:Int)) rfl (ev_new (by first|rfl|(simp;done))) OF.out HBQ.out (zw_ HBQ.out) (by have:=L60.out;omega) ?_;intro v1 w1 ho1 hb1 hg1 hat1;obtain ⟨A1,m1,c1,ev1,M1⟩:=own_form ho1;subst ev1;have B1:=zk_ BQ.out hg1 (own_ne OF.out BQ.out (by decide));have hd0:=(z1_ B1 0).trans rfl;have hd1:=(z1_ B1 1).trans rfl;have he0:=zf_ B1 0;have he1:=zf_ B1 1;simp only [List.getElem?_toArray,List.getElem?_cons_zero,List.getElem?_cons_succ] at hd0 hd1;have B2:=a_ (wt_ (cs':=#[.slice A1 m1 c1,.slice (AD) ds.length cD]) B1 0 (.slice A1 m1 c1) rfl);have F2:=a_ (xl_ (p:=⟨b,0,none⟩) ho1 (own_ne ho1 B1 (by decide)) (.slice A1 m1 c1));have O1:=own_other OD.out hg1 (ne_other NE.out);have O2:=a_ (xl_ (p:=⟨b,0,none⟩) O1 (own_ne O1 B1 (by decide)) (.slice A1 m1 c1));have HB2:=a_ (zu_ (j:=0) (v:=.slice A1 m1 c1) hb1 HWB.out);have K2:=a_ ((KQ.out.trans (KeepT.grown OF.out hg1)).trans (KeepT.set B1 0 (.slice A1 m1 c1)));have N2:=a_ (ne_append NE.out hat1 OD.out);clear B1 O1 ho1 hb1 hg1 hat1)
    | (at_builtin;refine xk_ (w0:=w0) w0.heap.size rfl (.tmp 137) (.tmp 139) 43 3 .i64 8 rfl Tryz.underlying43 info3 (by decide) (.slice AD ds.length cD) ds (0) rfl (ev_new (by first|rfl|(simp;done))) O2.out HB2.out (zw_ HB2.out) (by have:=L60.out;omega) ?_;intro v2 w2 ho2 hb2 hg2 hat2;obtain ⟨A2,m2,c2,ev2,M2⟩:=own_form ho2;subst ev2;have B3:=a_ (zk_ B2.out hg2 (own_ne O2.out B2.out (by decide)));have hg0:=(z1_ B3.out 1).trans rfl;have hh1:=zf_ B3.out 1;simp only [List.getElem?_toArray,List.getElem?_cons_zero,List.getElem?_cons_succ] at hg0;have F3:=a_ (own_other F2.out hg2 (ne_other (ne_symm N2.out)));have O3:=a_ ho2;have HB3:=a_ hb2;have K3:=a_ (K2.out.trans (KeepT.grown O2.out hg2));have N3:=a_ (ne_append' N2.out hat2 F2.out);clear ho2 hb2 hg2 hat2))
   go_ret;exact ⟨by first|rfl|(simp;done),⟨_,_,wt_ B3.out 1 _ rfl,xl_ F3.out (own_ne F3.out B3.out (by decide)) _,xl_ O3.out (own_ne O3.out B3.out (by decide)) _,N3.out⟩,zu_ HB3.out HWB.out,(K3.out).trans (KeepT.set B3.out _ _)⟩
  | true=>
   have hC':exEq 0 0 x.f1 0 x.f2 ⟨#[]⟩ x.f3.f0 x.f3.f0 x.f3.f1 x.f3.f1 x.f3.f2 x.f3.f2 x.f4 0 x.f5 0=true:=by rw [←hC,onlyC,k0]
   clear hC k0;go_enter Tryz.func151,Tryz.ntmps151
   go_wp2_with (first
    | (at_builtin;refine xk_ (w0:=w0) w0.heap.size rfl (.tmp 127) (.tmp 129) 43 3 .i64 8 rfl Tryz.underlying43 info3 (by decide) (.slice AF fs.length cF) fs ((fs.length:Int)) rfl (ev_new (by first|rfl|(simp;done))) OF.out HBQ.out (zw_ HBQ.out) (by have:=L60.out;omega) ?_;intro v1 w1 ho1 hb1 hg1 hat1;obtain ⟨A1,m1,c1,ev1,M1⟩:=own_form ho1;subst ev1;have B1:=zk_ BQ.out hg1 (own_ne OF.out BQ.out (by decide));have hd0:=(z1_ B1 0).trans rfl;have hd1:=(z1_ B1 1).trans rfl;have he0:=zf_ B1 0;have he1:=zf_ B1 1;simp only [List.getElem?_toArray,List.getElem?_cons_zero,List.getElem?_cons_succ] at hd0 hd1;have B2:=a_ (wt_ (cs':=#[.slice A1 m1 c1,.slice (AD) ds.length cD]) B1 0 (.slice A1 m1 c1) rfl);have F2:=a_ (xl_ (p:=⟨b,0,none⟩) ho1 (own_ne ho1 B1 (by decide)) (.slice A1 m1 c1));have O1:=own_other OD.out hg1 (ne_other NE.out);have O2:=a_ (xl_ (p:=⟨b,0,none⟩) O1 (own_ne O1 B1 (by decide)) (.slice A1 m1 c1));have HB2:=a_ (zu_ (j:=0) (v:=.slice A1 m1 c1) hb1 HWB.out);have K2:=a_ ((KQ.out.trans (KeepT.grown OF.out hg1)).trans (KeepT.set B1 0 (.slice A1 m1 c1)));have N2:=a_ (ne_append NE.out hat1 OD.out);clear B1 O1 ho1 hb1 hg1 hat1)
    | (at_builtin;refine xk_ (w0:=w0) w0.heap.size rfl (.tmp 137) (.tmp 139) 43 3 .i64 8 rfl Tryz.underlying43 info3 (by decide) (.slice AD ds.length cD) ds (0) rfl (ev_new (by first|rfl|(simp;done))) O2.out HB2.out (zw_ HB2.out) (by have:=L60.out;omega) ?_;intro v2 w2 ho2 hb2 hg2 hat2;obtain ⟨A2,m2,c2,ev2,M2⟩:=own_form ho2;subst ev2;have B3:=a_ (zk_ B2.out hg2 (own_ne O2.out B2.out (by decide)));have hg0:=(z1_ B3.out 1).trans rfl;have hh1:=zf_ B3.out 1;simp only [List.getElem?_toArray,List.getElem?_cons_zero,List.getElem?_cons_succ] at hg0;have F3:=a_ (own_other F2.out hg2 (ne_other (ne_symm N2.out)));have O3:=a_ ho2;have HB3:=a_ hb2;have K3:=a_ (K2.out.trans (KeepT.grown O2.out hg2));have N3:=a_ (ne_append' N2.out hat2 F2.out);clear ho2 hb2 hg2 hat2)
    | (go_at_call 120;refine (w5_.calls x.f3.f0 x.f3.f1 x.f3.f2 (goodValueB x.f3) _ OV.out).mono ?_;rintro e wq ⟨rfl,hd⟩;have BQ:=a_ (zd_ (z5_ HT.out.1 (.cells #[.int .i64 0,.int .u8 x.f1,.string x.f2,.int .i64 x.f3.f0,.int .i64 x.f3.f1,.string x.f3.f2,.int .i64 x.f4,.int .i64 x.f5] 161)) hd);have OF:=a_ (w2_ (own_alloc HT.out.2.1 (.cells #[.int .i64 0,.int .u8 x.f1,.string x.f2,.int .i64 x.f3.f0,.int .i64 x.f3.f1,.string x.f3.f2,.int .i64 x.f4,.int .i64 x.f5] 161)) hd);have OD:=a_ (w2_ (own_alloc HT.out.2.2.1 (.cells #[.int .i64 0,.int .u8 x.f1,.string x.f2,.int .i64 x.f3.f0,.int .i64 x.f3.f1,.string x.f3.f2,.int .i64 x.f4,.int .i64 x.f5] 161)) hd);have HBQ:=a_ (y7_ (z3_ HB.out (.cells #[.int .i64 0,.int .u8 x.f1,.string x.f2,.int .i64 x.f3.f0,.int .i64 x.f3.f1,.string x.f3.f2,.int .i64 x.f4,.int .i64 x.f5] 161)) hd);have KQ:=a_ ((KeepT.below (z3_ (Below.refl _ w) (.cells #[.int .i64 0,.int .u8 x.f1,.string x.f2,.int .i64 x.f3.f0,.int .i64 x.f3.f1,.string x.f3.f2,.int .i64 x.f4,.int .i64 x.f5] 161))).trans (KeepT.below hd));have hq2:=(z1_ BQ.out 0).trans rfl;have hq3:=(z1_ BQ.out 1).trans rfl;simp only [List.getElem?_toArray,List.getElem?_cons_zero,List.getElem?_cons_succ] at hq2 hq3;clear hd))
   go_ret;exact ⟨by first|rfl|(simp;done),⟨_,_,wt_ B3.out 1 _ rfl,xl_ F3.out (own_ne F3.out B3.out (by decide)) _,xl_ O3.out (own_ne O3.out B3.out (by decide)) _,N3.out⟩,zu_ HB3.out HWB.out,(K3.out).trans (KeepT.set B3.out _ _)⟩
 by_cases k1:x.f0=1
 ·rw [if_neg k0,if_pos k1] at h;clear k0
  obtain ⟨rfl,rfl,rfl⟩:r=(onlyV x&&xm_ x.f2)∧fs'=fs++[(fs.length:Int)]∧ds'=ds++[0]:=by
   have:=Option.some.inj h
   simp only [Prod.mk.injEq] at this;exact ⟨this.1.symm,this.2.1.symm,this.2.2.symm⟩
  clear h;rw [k1] at hx0;cases hC:onlyV x with
  | false=>
   have hC':exEq 1 1 x.f1 0 x.f2 x.f2 x.f3.f0 0 x.f3.f1 0 x.f3.f2 ⟨#[]⟩ x.f4 0 x.f5 0=false:=by rw [←hC,onlyV,k1]
   clear hC k1;have BQ:=a_ (z5_ HT.out.1 (.cells #[.int .i64 1,.int .u8 x.f1,.string x.f2,.int .i64 x.f3.f0,.int .i64 x.f3.f1,.string x.f3.f2,.int .i64 x.f4,.int .i64 x.f5] 161));have OF:=a_ (own_alloc HT.out.2.1 (.cells #[.int .i64 1,.int .u8 x.f1,.string x.f2,.int .i64 x.f3.f0,.int .i64 x.f3.f1,.string x.f3.f2,.int .i64 x.f4,.int .i64 x.f5] 161));have OD:=a_ (own_alloc HT.out.2.2.1 (.cells #[.int .i64 1,.int .u8 x.f1,.string x.f2,.int .i64 x.f3.f0,.int .i64 x.f3.f1,.string x.f3.f2,.int .i64 x.f4,.int .i64 x.f5] 161));have HBQ:=a_ (z3_ HB.out (.cells #[.int .i64 1,.int .u8 x.f1,.string x.f2,.int .i64 x.f3.f0,.int .i64 x.f3.f1,.string x.f3.f2,.int .i64 x.f4,.int .i64 x.f5] 161));have KQ:=a_ (KeepT.below (z3_ (Below.refl _ w) (.cells #[.int .i64 1,.int .u8 x.f1,.string x.f2,.int .i64 x.f3.f0,.int .i64 x.f3.f1,.string x.f3.f2,.int .i64 x.f4,.int .i64 x.f5] 161)));go_enter Tryz.func151,Tryz.ntmps151
   go_wp2_with (first
    | (at_builtin;refine xk_ (w0:=w0) w0.heap.size rfl (.tmp 127) (.tmp 129) 43 3 .i64 8 rfl Tryz.underlying43 info3 (by decide) (.slice AF fs.length cF) fs ((fs.length:Int)) rfl (ev_new (by first|rfl|(simp;done))) OF.out HBQ.out (zw_ HBQ.out) (by have:=L60.out;omega) ?_;intro v1 w1 ho1 hb1 hg1 hat1;obtain ⟨A1,m1,c1,ev1,M1⟩:=own_form ho1;subst ev1;have B1:=zk_ BQ.out hg1 (own_ne OF.out BQ.out (by decide));have hd0:=(z1_ B1 0).trans rfl;have hd1:=(z1_ B1 1).trans rfl;have he0:=zf_ B1 0;have he1:=zf_ B1 1;simp only [List.getElem?_toArray,List.getElem?_cons_zero,List.getElem?_cons_succ] at hd0 hd1;have B2:=a_ (wt_ (cs':=#[.slice A1 m1 c1,.slice (AD) ds.length cD]) B1 0 (.slice A1 m1 c1) rfl);have F2:=a_ (xl_ (p:=⟨b,0,none⟩) ho1 (own_ne ho1 B1 (by decide)) (.slice A1 m1 c1));have O1:=own_other OD.out hg1 (ne_other NE.out);have O2:=a_ (xl_ (p:=⟨b,0,none⟩) O1 (own_ne O1 B1 (by decide)) (.slice A1 m1 c1));have HB2:=a_ (zu_ (j:=0) (v:=.slice A1 m1 c1) hb1 HWB.out);have K2:=a_ ((KQ.out.trans (KeepT.grown OF.out hg1)).trans (KeepT.set B1 0 (.slice A1 m1 c1)));have N2:=a_ (ne_append NE.out hat1 OD.out);clear B1 O1 ho1 hb1 hg1 hat1)
    | (at_builtin;refine xk_ (w0:=w0) w0.heap.size rfl (.tmp 137) (.tmp 139) 43 3 .i64 8 rfl Tryz.underlying43 info3 (by decide) (.slice AD ds.length cD) ds (0) rfl (ev_new (by first|rfl|(simp;done))) O2.out HB2.out (zw_ HB2.out) (by have:=L60.out;omega) ?_;intro v2 w2 ho2 hb2 hg2 hat2;obtain ⟨A2,m2,c2,ev2,M2⟩:=own_form ho2;subst ev2;have B3:=a_ (zk_ B2.out hg2 (own_ne O2.out B2.out (by decide)));have hg0:=(z1_ B3.out 1).trans rfl;have hh1:=zf_ B3.out 1;simp only [List.getElem?_toArray,List.getElem?_cons_zero,List.getElem?_cons_succ] at hg0;have F3:=a_ (own_other F2.out hg2 (ne_other (ne_symm N2.out)));have O3:=a_ ho2;have HB3:=a_ hb2;have K3:=a_ (K2.out.trans (KeepT.grown O2.out hg2));have N3:=a_ (ne_append' N2.out hat2 F2.out);clear ho2 hb2 hg2 hat2))
   go_ret;exact ⟨by first|rfl|(simp;done),⟨_,_,wt_ B3.out 1 _ rfl,xl_ F3.out (own_ne F3.out B3.out (by decide)) _,xl_ O3.out (own_ne O3.out B3.out (by decide)) _,N3.out⟩,zu_ HB3.out HWB.out,(K3.out).trans (KeepT.set B3.out _ _)⟩
  | true=>
   have hC':exEq 1 1 x.f1 0 x.f2 x.f2 x.f3.f0 0 x.f3.f1 0 x.f3.f2 ⟨#[]⟩ x.f4 0 x.f5 0=true:=by rw [←hC,onlyV,k1]
   clear hC k1;go_enter Tryz.func151,Tryz.ntmps151
   go_wp2_with (first
    | (at_builtin;refine xk_ (w0:=w0) w0.heap.size rfl (.tmp 127) (.tmp 129) 43 3 .i64 8 rfl Tryz.underlying43 info3 (by decide) (.slice AF fs.length cF) fs ((fs.length:Int)) rfl (ev_new (by first|rfl|(simp;done))) OF.out HBQ.out (zw_ HBQ.out) (by have:=L60.out;omega) ?_;intro v1 w1 ho1 hb1 hg1 hat1;obtain ⟨A1,m1,c1,ev1,M1⟩:=own_form ho1;subst ev1;have B1:=zk_ BQ.out hg1 (own_ne OF.out BQ.out (by decide));have hd0:=(z1_ B1 0).trans rfl;have hd1:=(z1_ B1 1).trans rfl;have he0:=zf_ B1 0;have he1:=zf_ B1 1;simp only [List.getElem?_toArray,List.getElem?_cons_zero,List.getElem?_cons_succ] at hd0 hd1;have B2:=a_ (wt_ (cs':=#[.slice A1 m1 c1,.slice (AD) ds.length cD]) B1 0 (.slice A1 m1 c1) rfl);have F2:=a_ (xl_ (p:=⟨b,0,none⟩) ho1 (own_ne ho1 B1 (by decide)) (.slice A1 m1 c1));have O1:=own_other OD.out hg1 (ne_other NE.out);have O2:=a_ (xl_ (p:=⟨b,0,none⟩) O1 (own_ne O1 B1 (by decide)) (.slice A1 m1 c1));have HB2:=a_ (zu_ (j:=0) (v:=.slice A1 m1 c1) hb1 HWB.out);have K2:=a_ ((KQ.out.trans (KeepT.grown OF.out hg1)).trans (KeepT.set B1 0 (.slice A1 m1 c1)));have N2:=a_ (ne_append NE.out hat1 OD.out);clear B1 O1 ho1 hb1 hg1 hat1)
    | (at_builtin;refine xk_ (w0:=w0) w0.heap.size rfl (.tmp 137) (.tmp 139) 43 3 .i64 8 rfl Tryz.underlying43 info3 (by decide) (.slice AD ds.length cD) ds (0) rfl (ev_new (by first|rfl|(simp;done))) O2.out HB2.out (zw_ HB2.out) (by have:=L60.out;omega) ?_;intro v2 w2 ho2 hb2 hg2 hat2;obtain ⟨A2,m2,c2,ev2,M2⟩:=own_form ho2;subst ev2;have B3:=a_ (zk_ B2.out hg2 (own_ne O2.out B2.out (by decide)));have hg0:=(z1_ B3.out 1).trans rfl;have hh1:=zf_ B3.out 1;simp only [List.getElem?_toArray,List.getElem?_cons_zero,List.getElem?_cons_succ] at hg0;have F3:=a_ (own_other F2.out hg2 (ne_other (ne_symm N2.out)));have O3:=a_ ho2;have HB3:=a_ hb2;have K3:=a_ (K2.out.trans (KeepT.grown O2.out hg2));have N3:=a_ (ne_append' N2.out hat2 F2.out);clear ho2 hb2 hg2 hat2)
    | (go_at_call 67;refine (xe_.calls x.f2 (xm_ x.f2) _ OS.out).mono ?_;rintro e wq ⟨rfl,hd⟩;have BQ:=a_ (zd_ (z5_ HT.out.1 (.cells #[.int .i64 1,.int .u8 x.f1,.string x.f2,.int .i64 x.f3.f0,.int .i64 x.f3.f1,.string x.f3.f2,.int .i64 x.f4,.int .i64 x.f5] 161)) hd);have OF:=a_ (w2_ (own_alloc HT.out.2.1 (.cells #[.int .i64 1,.int .u8 x.f1,.string x.f2,.int .i64 x.f3.f0,.int .i64 x.f3.f1,.string x.f3.f2,.int .i64 x.f4,.int .i64 x.f5] 161)) hd);have OD:=a_ (w2_ (own_alloc HT.out.2.2.1 (.cells #[.int .i64 1,.int .u8 x.f1,.string x.f2,.int .i64 x.f3.f0,.int .i64 x.f3.f1,.string x.f3.f2,.int .i64 x.f4,.int .i64 x.f5] 161)) hd);have HBQ:=a_ (y7_ (z3_ HB.out (.cells #[.int .i64 1,.int .u8 x.f1,.string x.f2,.int .i64 x.f3.f0,.int .i64 x.f3.f1,.string x.f3.f2,.int .i64 x.f4,.int .i64 x.f5] 161)) hd);have KQ:=a_ ((KeepT.below (z3_ (Below.refl _ w) (.cells #[.int .i64 1,.int .u8 x.f1,.string x.f2,.int .i64 x.f3.f0,.int .i64 x.f3.f1,.string x.f3.f2,.int .i64 x.f4,.int .i64 x.f5] 161))).trans (KeepT.below hd));have hq2:=(z1_ BQ.out 0).trans rfl;have hq3:=(z1_ BQ.out 1).trans rfl;simp only [List.getElem?_toArray,List.getElem?_cons_zero,List.getElem?_cons_succ] at hq2 hq3;clear hd))
   go_ret;exact ⟨by first|rfl|(simp;done),⟨_,_,wt_ B3.out 1 _ rfl,xl_ F3.out (own_ne F3.out B3.out (by decide)) _,xl_ O3.out (own_ne O3.out B3.out (by decide)) _,N3.out⟩,zu_ HB3.out HWB.out,(K3.out).trans (KeepT.set B3.out _ _)⟩
 by_cases k2:x.f0=2
 ·rw [if_neg k0,if_neg k1,if_pos k2] at h;clear k0 k1;have hon:onlyO x=exEq 2 2 x.f1 x.f1 x.f2 ⟨#[]⟩ x.f3.f0 0 x.f3.f1 0 x.f3.f2 ⟨#[]⟩ x.f4 x.f4 x.f5 x.f5:=by rw [onlyO,k2]
  rw [k2] at hx0;clear k2;have hw1:IntKind.i64.wrap ((fs.length:Int)-1)=(fs.length:Int)-1:=IntWalk.i64_in _ (by omega)
  have HW1:=a_ hw1;clear hw1;by_cases o1:onlyO x=true
  rotate_left
  ·rw [if_neg (fun q=>o1 q.1)] at h
   obtain ⟨rfl,rfl,rfl⟩:r=(false)∧fs'=fs++[(fs.length:Int)]∧ds'=ds++[0]:=by
    have:=Option.some.inj h
    simp only [Prod.mk.injEq] at this;exact ⟨this.1.symm,this.2.1.symm,this.2.2.symm⟩
   clear h;have hC':exEq 2 2 x.f1 x.f1 x.f2 ⟨#[]⟩ x.f3.f0 0 x.f3.f1 0 x.f3.f2 ⟨#[]⟩ x.f4 x.f4 x.f5 x.f5=false:=by rw [←hon];simpa using o1
   clear hon o1;exact u01d_0
  have hC':exEq 2 2 x.f1 x.f1 x.f2 ⟨#[]⟩ x.f3.f0 0 x.f3.f1 0 x.f3.f2 ⟨#[]⟩ x.f4 x.f4 x.f5 x.f5=true:=hon.symm.trans o1
  clear hon;by_cases a1:arithB x.f1=true
  rotate_left
  ·rw [if_neg (fun q=>a1 q.2.1)] at h
   obtain ⟨rfl,rfl,rfl⟩:r=(false)∧fs'=fs++[(fs.length:Int)]∧ds'=ds++[0]:=by
    have:=Option.some.inj h
    simp only [Prod.mk.injEq] at this;exact ⟨this.1.symm,this.2.1.symm,this.2.2.symm⟩
   clear h;have ha1:decide (0≤arIdx x.f1)=false:=by simpa [arithB] using a1
   clear a1 o1;exact u01d_0
  have ha1:decide (0≤arIdx x.f1)=true:=a1
  by_cases b1:x.f5=(fs.length:Int)-1
  rotate_left
  ·rw [if_neg (fun q=>b1 q.2.2.1)] at h
   obtain ⟨rfl,rfl,rfl⟩:r=(false)∧fs'=fs++[(fs.length:Int)]∧ds'=ds++[0]:=by
    have:=Option.some.inj h
    simp only [Prod.mk.injEq] at this;exact ⟨this.1.symm,this.2.1.symm,this.2.2.symm⟩
   clear h;have hb1:(x.f5==(fs.length:Int)-1)=false:=by simpa using b1
   have hw1:=HW1.out;clear a1 o1 b1;exact u01d_0
  have hb1:(x.f5==(fs.length:Int)-1)=true:=by simpa using b1
  by_cases b2:0≤x.f5
  rotate_left
  ·rw [if_neg (fun q=>b2 q.2.2.2.1)] at h
   obtain ⟨rfl,rfl,rfl⟩:r=(false)∧fs'=fs++[(fs.length:Int)]∧ds'=ds++[0]:=by
    have:=Option.some.inj h
    simp only [Prod.mk.injEq] at this;exact ⟨this.1.symm,this.2.1.symm,this.2.2.symm⟩
   clear h;have hb2:decide (0≤x.f5)=false:=decide_eq_false b2
   have hw1:=HW1.out;clear a1 o1 b1 b2;exact u01d_0
  have hb2:decide (0≤x.f5)=true:=decide_eq_true b2
  by_cases a2:0≤x.f4
  rotate_left
  ·rw [if_neg (fun q=>a2 q.2.2.2.2)] at h
   obtain ⟨rfl,rfl,rfl⟩:r=(false)∧fs'=fs++[(fs.length:Int)]∧ds'=ds++[0]:=by
    have:=Option.some.inj h
    simp only [Prod.mk.injEq] at this;exact ⟨this.1.symm,this.2.1.symm,this.2.2.symm⟩
   clear h;have ha2:decide (0≤x.f4)=false:=decide_eq_false a2
   have hw1:=HW1.out;clear a1 o1 b1 b2 a2;exact u01d_0
  have ha2:decide (0≤x.f4)=true:=decide_eq_true a2
  rw [if_pos ⟨o1,a1,b1,b2,a2⟩] at h;have hl5:x.f5<(fs.length:Int):=by omega
  have L1:z0_ (x.f5<(ds.length:Int)):=⟨by have:=L60.out;omega⟩
  clear a1 o1 b1;by_cases g1:0≤rd fs x.f5∧rd fs x.f5≤64
  rotate_left
  ·rw [if_neg g1] at h;cases h
  rw [if_pos g1] at h;have hw2:IntKind.i64.wrap (rd fs x.f5-1)=rd fs x.f5-1:=IntWalk.i64_in _ (by omega)
  have HW2:=a_ hw2;clear hw2 g1;obtain ⟨ad5,e5,hy5⟩:=(own_readsI (own_alloc HT.out.2.1 (.cells #[.int .i64 2,.int .u8 x.f1,.string x.f2,.int .i64 x.f3.f0,.int .i64 x.f3.f1,.string x.f3.f2,.int .i64 x.f4,.int .i64 x.f5] 161))).at_ x.f5 b2 hl5;cases e5;by_cases a3:x.f4=rd fs x.f5-1
  rotate_left
  ·rw [if_neg a3] at h
   obtain ⟨rfl,rfl,rfl⟩:r=(false)∧fs'=fs++[(fs.length:Int)]∧ds'=ds++[0]:=by
    have:=Option.some.inj h
    simp only [Prod.mk.injEq] at this;exact ⟨this.1.symm,this.2.1.symm,this.2.2.symm⟩
   clear h;have ha3:(x.f4==rd fs x.f5-1)=false:=by simpa using a3
   have hw1:=HW1.out;have hw2:=HW2.out;clear a3;go_enter Tryz.func151,Tryz.ntmps151;go_wp2;go_quiet ((go_at_call 179;exact Calls.quiet_of_same (arIdx_calls x.f1 _)))
   generalize hgq:(w.alloc (.cells #[.int .i64 2,.int .u8 x.f1,.string x.f2,.int .i64 x.f3.f0,.int .i64 x.f3.f1,.string x.f3.f2,.int .i64 x.f4,.int .i64 x.f5] 161)).drewN nq=wq;have BQ:=a_ (blk_at hgq (z5_ HT.out.1 (.cells #[.int .i64 2,.int .u8 x.f1,.string x.f2,.int .i64 x.f3.f0,.int .i64 x.f3.f1,.string x.f3.f2,.int .i64 x.f4,.int .i64 x.f5] 161)));have BX:=a_ (blk_at hgq (wh_ w (.cells #[.int .i64 2,.int .u8 x.f1,.string x.f2,.int .i64 x.f3.f0,.int .i64 x.f3.f1,.string x.f3.f2,.int .i64 x.f4,.int .i64 x.f5] 161)));have OF:=a_ (w2_ HT.out.2.1 (ws_ hgq (z3_ (Below.refl _ w) (.cells #[.int .i64 2,.int .u8 x.f1,.string x.f2,.int .i64 x.f3.f0,.int .i64 x.f3.f1,.string x.f3.f2,.int .i64 x.f4,.int .i64 x.f5] 161))));have OD:=a_ (w2_ HT.out.2.2.1 (ws_ hgq (z3_ (Below.refl _ w) (.cells #[.int .i64 2,.int .u8 x.f1,.string x.f2,.int .i64 x.f3.f0,.int .i64 x.f3.f1,.string x.f3.f2,.int .i64 x.f4,.int .i64 x.f5] 161))));have HBQ:=a_ (ws_ hgq (z3_ HB.out (.cells #[.int .i64 2,.int .u8 x.f1,.string x.f2,.int .i64 x.f3.f0,.int .i64 x.f3.f1,.string x.f3.f2,.int .i64 x.f4,.int .i64 x.f5] 161)));have KQ:=a_ (KeepT.below (ws_ hgq (z3_ (Below.refl _ w) (.cells #[.int .i64 2,.int .u8 x.f1,.string x.f2,.int .i64 x.f3.f0,.int .i64 x.f3.f1,.string x.f3.f2,.int .i64 x.f4,.int .i64 x.f5] 161))));clear hgq;have hq0z:=(z1_ BQ.out 0).trans rfl;have hq1z:=(z1_ BQ.out 1).trans rfl;have ha4z:=(z1_ BX.out 6).trans rfl;have ha5z:=(z1_ BX.out 7).trans rfl;simp only [List.getElem?_toArray,List.getElem?_cons_zero,List.getElem?_cons_succ] at hq0z hq1z ha4z ha5z
   go_wp2_with (first
    | (at_builtin;refine xk_ (w0:=w0) w0.heap.size rfl (.tmp 127) (.tmp 129) 43 3 .i64 8 rfl Tryz.underlying43 info3 (by decide) (.slice (some ad5) fs.length cF) fs ((fs.length:Int)) rfl (ev_new (by first|rfl|(simp;done))) OF.out HBQ.out (zw_ HBQ.out) (by have:=L60.out;omega) ?_;intro v1 w1 ho1 hb1 hg1 hat1;obtain ⟨A1,m1,c1,ev1,M1⟩:=own_form ho1;subst ev1;have B1:=zk_ BQ.out hg1 (own_ne OF.out BQ.out (by decide));have hd0:=(z1_ B1 0).trans rfl;have hd1:=(z1_ B1 1).trans rfl;have he0:=zf_ B1 0;have he1:=zf_ B1 1;simp only [List.getElem?_toArray,List.getElem?_cons_zero,List.getElem?_cons_succ] at hd0 hd1;have B2:=a_ (wt_ (cs':=#[.slice A1 m1 c1,.slice (AD) ds.length cD]) B1 0 (.slice A1 m1 c1) rfl);have F2:=a_ (xl_ (p:=⟨b,0,none⟩) ho1 (own_ne ho1 B1 (by decide)) (.slice A1 m1 c1));have O1:=own_other OD.out hg1 (ne_other NE.out);have O2:=a_ (xl_ (p:=⟨b,0,none⟩) O1 (own_ne O1 B1 (by decide)) (.slice A1 m1 c1));have HB2:=a_ (zu_ (j:=0) (v:=.slice A1 m1 c1) hb1 HWB.out);have K2:=a_ ((KQ.out.trans (KeepT.grown OF.out hg1)).trans (KeepT.set B1 0 (.slice A1 m1 c1)));have N2:=a_ (ne_append NE.out hat1 OD.out);clear B1 O1 ho1 hb1 hg1 hat1)
    | (at_builtin;refine xk_ (w0:=w0) w0.heap.size rfl (.tmp 137) (.tmp 139) 43 3 .i64 8 rfl Tryz.underlying43 info3 (by decide) (.slice AD ds.length cD) ds (0) rfl (ev_new (by first|rfl|(simp;done))) O2.out HB2.out (zw_ HB2.out) (by have:=L60.out;omega) ?_;intro v2 w2 ho2 hb2 hg2 hat2;obtain ⟨A2,m2,c2,ev2,M2⟩:=own_form ho2;subst ev2;have B3:=a_ (zk_ B2.out hg2 (own_ne O2.out B2.out (by decide)));have hg0:=(z1_ B3.out 1).trans rfl;have hh1:=zf_ B3.out 1;simp only [List.getElem?_toArray,List.getElem?_cons_zero,List.getElem?_cons_succ] at hg0;have F3:=a_ (own_other F2.out hg2 (ne_other (ne_symm N2.out)));have O3:=a_ ho2;have HB3:=a_ hb2;have K3:=a_ (K2.out.trans (KeepT.grown O2.out hg2));have N3:=a_ (ne_append' N2.out hat2 F2.out);clear ho2 hb2 hg2 hat2))
   go_ret;exact u01d_2
  rw [if_pos a3] at h;have ha3:(x.f4==rd fs x.f5-1)=true:=by simpa using a3
  clear a3;by_cases g2:x.f4<(fs.length:Int)∧0≤rd ds x.f4∧rd ds x.f4≤64∧0≤rd ds x.f5∧rd ds x.f5≤64
  rotate_left
  ·rw [if_neg g2] at h;cases h
  rw [if_pos g2] at h;obtain ⟨hl4,g2,g3,g4,g5⟩:=g2;have L2:z0_ (x.f4<(ds.length:Int)):=⟨by have:=L60.out;omega⟩
  have hw3:IntKind.i64.wrap (1+mx (rd ds x.f4) (rd ds x.f5))=1+mx (rd ds x.f4) (rd ds x.f5):=IntWalk.i64_in _ (by unfold mx;split<;>omega)
  have HW3:=a_ hw3;clear hw3
  obtain ⟨rfl,rfl,rfl⟩:r=decide (1+mx (rd ds x.f4) (rd ds x.f5)≤20)∧fs'=fs++[rd fs x.f4]∧ds'=ds++[1+mx (rd ds x.f4) (rd ds x.f5)]:=by
   have:=Option.some.inj h
   simp only [Prod.mk.injEq] at this;exact ⟨this.1.symm,this.2.1.symm,this.2.2.symm⟩
  clear h;have hw1:=HW1.out;have hw2:=HW2.out;go_enter Tryz.func151,Tryz.ntmps151;go_wp2;go_quiet ((go_at_call 179;exact Calls.quiet_of_same (arIdx_calls x.f1 _)))
  generalize hgq:(w.alloc (.cells #[.int .i64 2,.int .u8 x.f1,.string x.f2,.int .i64 x.f3.f0,.int .i64 x.f3.f1,.string x.f3.f2,.int .i64 x.f4,.int .i64 x.f5] 161)).drewN nq=wq;have BQ:=a_ (blk_at hgq (z5_ HT.out.1 (.cells #[.int .i64 2,.int .u8 x.f1,.string x.f2,.int .i64 x.f3.f0,.int .i64 x.f3.f1,.string x.f3.f2,.int .i64 x.f4,.int .i64 x.f5] 161)));have BX:=a_ (blk_at hgq (wh_ w (.cells #[.int .i64 2,.int .u8 x.f1,.string x.f2,.int .i64 x.f3.f0,.int .i64 x.f3.f1,.string x.f3.f2,.int .i64 x.f4,.int .i64 x.f5] 161)));have OF:=a_ (w2_ HT.out.2.1 (ws_ hgq (z3_ (Below.refl _ w) (.cells #[.int .i64 2,.int .u8 x.f1,.string x.f2,.int .i64 x.f3.f0,.int .i64 x.f3.f1,.string x.f3.f2,.int .i64 x.f4,.int .i64 x.f5] 161))));have OD:=a_ (w2_ HT.out.2.2.1 (ws_ hgq (z3_ (Below.refl _ w) (.cells #[.int .i64 2,.int .u8 x.f1,.string x.f2,.int .i64 x.f3.f0,.int .i64 x.f3.f1,.string x.f3.f2,.int .i64 x.f4,.int .i64 x.f5] 161))));have HBQ:=a_ (ws_ hgq (z3_ HB.out (.cells #[.int .i64 2,.int .u8 x.f1,.string x.f2,.int .i64 x.f3.f0,.int .i64 x.f3.f1,.string x.f3.f2,.int .i64 x.f4,.int .i64 x.f5] 161)));have KQ:=a_ (KeepT.below (ws_ hgq (z3_ (Below.refl _ w) (.cells #[.int .i64 2,.int .u8 x.f1,.string x.f2,.int .i64 x.f3.f0,.int .i64 x.f3.f1,.string x.f3.f2,.int .i64 x.f4,.int .i64 x.f5] 161))));clear hgq;have hq0z:=(z1_ BQ.out 0).trans rfl;have hq1z:=(z1_ BQ.out 1).trans rfl;have ha4z:=(z1_ BX.out 6).trans rfl;have ha5z:=(z1_ BX.out 7).trans rfl;simp only [List.getElem?_toArray,List.getElem?_cons_zero,List.getElem?_cons_succ] at hq0z hq1z ha4z ha5z;obtain ⟨ad4,e4,hy4⟩:=(own_readsI OF.out).at_ x.f4 a2 hl4;cases e4;have hi0:(0:Int)≤x.f4:=a2
  go_wp2;go_quiet (fail)
  generalize hgq:wq.drewN nq=wr;replace BQ:=a_ (blk_at hgq BQ.out);replace BX:=a_ (blk_at hgq BX.out);replace OF:=a_ (w2_ OF.out (ws_ hgq (Below.refl _ _)));replace OD:=a_ (w2_ OD.out (ws_ hgq (Below.refl _ _)));replace HBQ:=a_ (ws_ hgq HBQ.out);replace KQ:=a_ (KQ.out.trans (KeepT.below (ws_ hgq (Below.refl _ _))));clear hgq;have hq0y:=(z1_ BQ.out 0).trans rfl;have hq1y:=(z1_ BQ.out 1).trans rfl;have ha4y:=(z1_ BX.out 6).trans rfl;have ha5y:=(z1_ BX.out 7).trans rfl;simp only [List.getElem?_toArray,List.getElem?_cons_zero,List.getElem?_cons_succ] at hq0y hq1y ha4y ha5y;obtain ⟨ad6,e6,hy6⟩:=(own_readsI OD.out).at_ x.f4 a2 L2.out;cases e6;obtain ⟨ad7,e7,hy7⟩:=(own_readsI OD.out).at_ x.f5 b2 L1.out;cases e7;have hl8:=L1.out;have hl9:=L2.out;by_cases cm:rd ds x.f4<rd ds x.f5
  ·have em:=mx_lt cm;have hw3:=HW3.out;rw [em] at hw3;have EM:=a_ em;clear em;go_wp2;go_quiet (fail)
   generalize hgq:wr.drewN nq=ws;replace BQ:=a_ (blk_at hgq BQ.out);replace BX:=a_ (blk_at hgq BX.out);replace OF:=a_ (w2_ OF.out (ws_ hgq (Below.refl _ _)));replace OD:=a_ (w2_ OD.out (ws_ hgq (Below.refl _ _)));replace HBQ:=a_ (ws_ hgq HBQ.out);replace KQ:=a_ (KQ.out.trans (KeepT.below (ws_ hgq (Below.refl _ _))));clear hgq;have hq0x:=(z1_ BQ.out 0).trans rfl;have hq1x:=(z1_ BQ.out 1).trans rfl;have ha4x:=(z1_ BX.out 6).trans rfl;have ha5x:=(z1_ BX.out 7).trans rfl;simp only [List.getElem?_toArray,List.getElem?_cons_zero,List.getElem?_cons_succ] at hq0x hq1x ha4x ha5x
   go_wp2_with (first
    | (at_builtin;refine xk_ (w0:=w0) w0.heap.size rfl (.tmp 127) (.tmp 129) 43 3 .i64 8 rfl Tryz.underlying43 info3 (by decide) (.slice (some ad5) fs.length cF) fs (rd fs x.f4) rfl (ev_new (by first|rfl|(simp;done))) OF.out HBQ.out (zw_ HBQ.out) (by have:=L60.out;omega) ?_;intro v1 w1 ho1 hb1 hg1 hat1;obtain ⟨A1,m1,c1,ev1,M1⟩:=own_form ho1;subst ev1;have B1:=zk_ BQ.out hg1 (own_ne OF.out BQ.out (by decide));have hd0:=(z1_ B1 0).trans rfl;have hd1:=(z1_ B1 1).trans rfl;have he0:=zf_ B1 0;have he1:=zf_ B1 1;simp only [List.getElem?_toArray,List.getElem?_cons_zero,List.getElem?_cons_succ] at hd0 hd1;have B2:=a_ (wt_ (cs':=#[.slice A1 m1 c1,.slice ((some ad6)) ds.length cD]) B1 0 (.slice A1 m1 c1) rfl);have F2:=a_ (xl_ (p:=⟨b,0,none⟩) ho1 (own_ne ho1 B1 (by decide)) (.slice A1 m1 c1));have O1:=own_other OD.out hg1 (ne_other NE.out);have O2:=a_ (xl_ (p:=⟨b,0,none⟩) O1 (own_ne O1 B1 (by decide)) (.slice A1 m1 c1));have HB2:=a_ (zu_ (j:=0) (v:=.slice A1 m1 c1) hb1 HWB.out);have K2:=a_ ((KQ.out.trans (KeepT.grown OF.out hg1)).trans (KeepT.set B1 0 (.slice A1 m1 c1)));have N2:=a_ (ne_append NE.out hat1 OD.out);clear B1 O1 ho1 hb1 hg1 hat1)
    | (at_builtin;refine xk_ (w0:=w0) w0.heap.size rfl (.tmp 137) (.tmp 139) 43 3 .i64 8 rfl Tryz.underlying43 info3 (by decide) (.slice (some ad6) ds.length cD) ds (1+rd ds x.f5) rfl (ev_new (by first|rfl|(simp;done))) O2.out HB2.out (zw_ HB2.out) (by have:=L60.out;omega) ?_;intro v2 w2 ho2 hb2 hg2 hat2;obtain ⟨A2,m2,c2,ev2,M2⟩:=own_form ho2;subst ev2;have B3:=a_ (zk_ B2.out hg2 (own_ne O2.out B2.out (by decide)));have hg0:=(z1_ B3.out 1).trans rfl;have hh1:=zf_ B3.out 1;simp only [List.getElem?_toArray,List.getElem?_cons_zero,List.getElem?_cons_succ] at hg0;have F3:=a_ (own_other F2.out hg2 (ne_other (ne_symm N2.out)));have O3:=a_ ho2;have HB3:=a_ hb2;have K3:=a_ (K2.out.trans (KeepT.grown O2.out hg2));have N3:=a_ (ne_append' N2.out hat2 F2.out);clear ho2 hb2 hg2 hat2))
   go_ret;rw [EM.out];exact u01d_2
  ·have em:=mx_ge cm;have hw3:=HW3.out;rw [em] at hw3;have EM:=a_ em;clear em;go_wp2;go_quiet (fail)
   generalize hgq:wr.drewN nq=ws;replace BQ:=a_ (blk_at hgq BQ.out);replace BX:=a_ (blk_at hgq BX.out);replace OF:=a_ (w2_ OF.out (ws_ hgq (Below.refl _ _)));replace OD:=a_ (w2_ OD.out (ws_ hgq (Below.refl _ _)));replace HBQ:=a_ (ws_ hgq HBQ.out);replace KQ:=a_ (KQ.out.trans (KeepT.below (ws_ hgq (Below.refl _ _))));clear hgq;have hq0x:=(z1_ BQ.out 0).trans rfl;have hq1x:=(z1_ BQ.out 1).trans rfl;have ha4x:=(z1_ BX.out 6).trans rfl;have ha5x:=(z1_ BX.out 7).trans rfl;simp only [List.getElem?_toArray,List.getElem?_cons_zero,List.getElem?_cons_succ] at hq0x hq1x ha4x ha5x
   go_wp2_with (first
    | (at_builtin;refine xk_ (w0:=w0) w0.heap.size rfl (.tmp 127) (.tmp 129) 43 3 .i64 8 rfl Tryz.underlying43 info3 (by decide) (.slice (some ad5) fs.length cF) fs (rd fs x.f4) rfl (ev_new (by first|rfl|(simp;done))) OF.out HBQ.out (zw_ HBQ.out) (by have:=L60.out;omega) ?_;intro v1 w1 ho1 hb1 hg1 hat1;obtain ⟨A1,m1,c1,ev1,M1⟩:=own_form ho1;subst ev1;have B1:=zk_ BQ.out hg1 (own_ne OF.out BQ.out (by decide));have hd0:=(z1_ B1 0).trans rfl;have hd1:=(z1_ B1 1).trans rfl;have he0:=zf_ B1 0;have he1:=zf_ B1 1;simp only [List.getElem?_toArray,List.getElem?_cons_zero,List.getElem?_cons_succ] at hd0 hd1;have B2:=a_ (wt_ (cs':=#[.slice A1 m1 c1,.slice ((some ad6)) ds.length cD]) B1 0 (.slice A1 m1 c1) rfl);have F2:=a_ (xl_ (p:=⟨b,0,none⟩) ho1 (own_ne ho1 B1 (by decide)) (.slice A1 m1 c1));have O1:=own_other OD.out hg1 (ne_other NE.out);have O2:=a_ (xl_ (p:=⟨b,0,none⟩) O1 (own_ne O1 B1 (by decide)) (.slice A1 m1 c1));have HB2:=a_ (zu_ (j:=0) (v:=.slice A1 m1 c1) hb1 HWB.out);have K2:=a_ ((KQ.out.trans (KeepT.grown OF.out hg1)).trans (KeepT.set B1 0 (.slice A1 m1 c1)));have N2:=a_ (ne_append NE.out hat1 OD.out);clear B1 O1 ho1 hb1 hg1 hat1)
    | (at_builtin;refine xk_ (w0:=w0) w0.heap.size rfl (.tmp 137) (.tmp 139) 43 3 .i64 8 rfl Tryz.underlying43 info3 (by decide) (.slice (some ad6) ds.length cD) ds (1+rd ds x.f4) rfl (ev_new (by first|rfl|(simp;done))) O2.out HB2.out (zw_ HB2.out) (by have:=L60.out;omega) ?_;intro v2 w2 ho2 hb2 hg2 hat2;obtain ⟨A2,m2,c2,ev2,M2⟩:=own_form ho2;subst ev2;have B3:=a_ (zk_ B2.out hg2 (own_ne O2.out B2.out (by decide)));have hg0:=(z1_ B3.out 1).trans rfl;have hh1:=zf_ B3.out 1;simp only [List.getElem?_toArray,List.getElem?_cons_zero,List.getElem?_cons_succ] at hg0;have F3:=a_ (own_other F2.out hg2 (ne_other (ne_symm N2.out)));have O3:=a_ ho2;have HB3:=a_ hb2;have K3:=a_ (K2.out.trans (KeepT.grown O2.out hg2));have N3:=a_ (ne_append' N2.out hat2 F2.out);clear ho2 hb2 hg2 hat2))
   go_ret;rw [EM.out];exact u01d_2
 ·rw [if_neg k0,if_neg k1,if_neg k2] at h
  obtain ⟨rfl,rfl,rfl⟩:r=(false)∧fs'=fs++[(fs.length:Int)]∧ds'=ds++[0]:=by
   have:=Option.some.inj h
   simp only [Prod.mk.injEq] at this;exact ⟨this.1.symm,this.2.1.symm,this.2.2.symm⟩
  clear h;have p0:(x.f0==0)=false:=beq_eq_false_iff_ne.mpr k0
  have p1:(x.f0==1)=false:=beq_eq_false_iff_ne.mpr k1
  have p2:(x.f0==2)=false:=beq_eq_false_iff_ne.mpr k2
  clear k0 k1 k2;have BQ:=a_ (z5_ HT.out.1 (.cells #[.int .i64 x.f0,.int .u8 x.f1,.string x.f2,.int .i64 x.f3.f0,.int .i64 x.f3.f1,.string x.f3.f2,.int .i64 x.f4,.int .i64 x.f5] 161));have OF:=a_ (own_alloc HT.out.2.1 (.cells #[.int .i64 x.f0,.int .u8 x.f1,.string x.f2,.int .i64 x.f3.f0,.int .i64 x.f3.f1,.string x.f3.f2,.int .i64 x.f4,.int .i64 x.f5] 161));have OD:=a_ (own_alloc HT.out.2.2.1 (.cells #[.int .i64 x.f0,.int .u8 x.f1,.string x.f2,.int .i64 x.f3.f0,.int .i64 x.f3.f1,.string x.f3.f2,.int .i64 x.f4,.int .i64 x.f5] 161));have HBQ:=a_ (z3_ HB.out (.cells #[.int .i64 x.f0,.int .u8 x.f1,.string x.f2,.int .i64 x.f3.f0,.int .i64 x.f3.f1,.string x.f3.f2,.int .i64 x.f4,.int .i64 x.f5] 161));have KQ:=a_ (KeepT.below (z3_ (Below.refl _ w) (.cells #[.int .i64 x.f0,.int .u8 x.f1,.string x.f2,.int .i64 x.f3.f0,.int .i64 x.f3.f1,.string x.f3.f2,.int .i64 x.f4,.int .i64 x.f5] 161)));go_enter Tryz.func151,Tryz.ntmps151;exact u01d_1
end Go.Proofs.YtahambloheoebaaGreatDoor.P
namespace Go.Proofs.YtahambloheoebaaGreatDoorX
open Go Go.RowKit Go.Proofs.YtahambloheoebaaGreatDoorW.PrintWords
theorem blk_new1 (w:World) (o o':Obj):((w.alloc o).alloc o').heap[w.heap.size+1]?=some o':=by
 have h:=wh_ (w.alloc o) o';rwa [show (w.alloc o).heap.size=w.heap.size+1 by simp] at h
end Go.Proofs.YtahambloheoebaaGreatDoorX
namespace Go.Proofs.YtahambloheoebaaGreatDoor.P
open Go.Proofs.YtahambloheoebaaGreatDoorX
open Go.RowKit Go.Proofs.YtahambloheoebaaGreatDoorW.PrintWords Go.Proofs.YtahambloheoebaaGreatDoorW.PrintLast Go.Proofs.YtahambloheoebaaGreatDoorW.PrintMore
attribute [local go_sem] ww_ wx_ max_two min_two wc_ wb_ wu_ wv_
open Go.Proofs.YtahambloheoebaaGreatDoorX
def y0_.g (fs:List Int):List Int→Int→Option (Bool×Int)
 | [],n=>some (true,n)
 | x::xs,n=>if 0≤x∧x<(fs.length:Int) then (if rd fs x=n then y0_.g fs xs (x+1) else some (false,n)) else some (false,n)
def y0_.f (fs:List Int) (kd K:Int) (cls:ByteArray) (xs:List Int) (n:Int):Option (Bool×Int):=
 if kd=1 then (if goodClsB cls=true then (if K=0 then (if 6<xs.length then some (false,n) else y0_.g fs xs n) else some (false,n)) else some (false,n)) else
 if kd=2 then (if cls.toList=[] then (if K < -1000000 then some (false,n) else if 1000000<K then some (false,n) else if xs=[] then some (true,n) else some (false,n)) else some (false,n)) else
 if kd=3 then (if cls.toList=[] then (if K < -1000000 then some (false,n) else if 1000000<K then some (false,n) else if 6<xs.length then some (false,n) else y0_.g fs xs n) else some (false,n)) else
 if kd=4 then (if cls.toList=[] then (if K=0 then (if xs=[] then some (true,n) else some (false,n)) else some (false,n)) else some (false,n)) else some (false,n)
theorem ag_ba {a:ByteArray} (h:a.toList=[]):a=⟨#[]⟩:=by
 rw [ByteArray.toList_eq] at h;cases a with|mk x=>
 exact congrArg ByteArray.mk (Array.toList_eq_nil_iff.1 h)
theorem ag_g_cons (fs xs:List Int) (n:Int) (i:Nat) (h:i<xs.length) (p:Bool×Int) (hg:y0_.g fs (xs.drop i) n=some p):(if 0≤rd xs (i:Int)∧rd xs (i:Int)<(fs.length:Int) then (if rd fs (rd xs (i:Int))=n then y0_.g fs (xs.drop (i+1)) (rd xs (i:Int)+1) else some (false,n)) else some (false,n))=some p:=by
 have e:rd xs (i:Int)=xs[i]:=by
  unfold rd
  simp [h]
 rw [List.drop_eq_getElem_cons h] at hg;unfold y0_.g at hg
 rw [e];exact hg
theorem ua1b_3 {p:Prop} (h:p:=by
 clear c4;have HNA:=a_ (z5_ (z5_ HN.out (.cells #[.int .i64 4,.int .i64 0,.string (⟨#[]⟩:ByteArray),.slice B xs.length cB] 98)) (.cells #[.int .i64 4,.int .i64 0,.string (⟨#[]⟩:ByteArray),.slice none 0 0] 98));have HG:=a_ ((World.grownBy_alloc w (.cells #[.int .i64 4,.int .i64 0,.string (⟨#[]⟩:ByteArray),.slice B xs.length cB] 98) (some b)).trans (World.grownBy_alloc _ (.cells #[.int .i64 4,.int .i64 0,.string (⟨#[]⟩:ByteArray),.slice none 0 0] 98) (some b)));go_enter Tryz.func152,Tryz.ntmps152;go_wp2;go_ret;exact ⟨rfl,HNA.out,HG.out,HG.out.size⟩):p:=h
theorem ua1b_2 {p:Prop} (h:p:=by
 clear c4;have HNA:=a_ (z5_ (z5_ HN.out (.cells #[.int .i64 2,.int .i64 K,.string (⟨#[]⟩:ByteArray),.slice B xs.length cB] 98)) (.cells #[.int .i64 2,.int .i64 K,.string (⟨#[]⟩:ByteArray),.slice none 0 0] 98));have HG:=a_ ((World.grownBy_alloc w (.cells #[.int .i64 2,.int .i64 K,.string (⟨#[]⟩:ByteArray),.slice B xs.length cB] 98) (some b)).trans (World.grownBy_alloc _ (.cells #[.int .i64 2,.int .i64 K,.string (⟨#[]⟩:ByteArray),.slice none 0 0] 98) (some b)));go_enter Tryz.func152,Tryz.ntmps152;go_wp2;go_ret;exact ⟨rfl,HNA.out,HG.out,HG.out.size⟩):p:=h
theorem ua1b_0 {p:Prop} (h:p:=by
 go_loopg [77] xs.length (fun gg v77 wr=>∃(i:Nat) (m:Int),i≤xs.length∧xs.length-i≤gg∧v77=.int .i64 (i:Int)∧z0_ (y0_.g fs (xs.drop i) m=some (r,n'))∧z0_ (wr.heap[b]?=some (.cells #[.int .i64 m] 3 (0,0)))∧z0_ (w.grownBy wr (some b)))
 case atStart=>exact ⟨0,n,Nat.zero_le _,Nat.le_refl _,rfl,HH,HNA,HG⟩
 obtain ⟨i,m,hi,hgg,rfl,HH2,HN2,HG2⟩:=hrel;by_cases hlt:i<xs.length
 ·have hz:(i:Int)<(xs.length:Int):=by omega
  have hz0:(0:Int)≤(i:Int):=by omega
  have HW:z0_ (Below w0.heap.size w0 wr):=⟨HB.out.grown HG2.out HB.out.size (by intro q e;injection e with e;have:=HB0.out;omega)⟩
  obtain ⟨ad,eA,hx⟩:=Kd.at_int HX.out (i:Int) hz0 hz;subst eA;replace hx:=(HW.out.cell (World.block_lt_of_cell? w0 _ hx)).trans hx;have hstep:=ag_g_cons fs xs m i hlt _ HH2.out;have hn0:=cell_of_one HN2.out;have hnf:=free_of_one HN2.out;have hT2:=zk_ HT.out HG2.out (by intro e;injection e with e;exact HBT.out e);have hF2:=own_other HF.out HG2.out (Or.inr (fun e=>HNE.out e.symm));have ht0:=(z1_ hT2 0).trans rfl;simp only [List.getElem?_toArray,List.getElem?_cons_zero,List.getElem?_cons_succ] at ht0;have HF2:=a_ hF2;have HFL2:=HFL.out;clear hT2 hF2;simp only [Int.toNat_natCast] at hx;generalize rd xs (i:Int)=x at *;by_cases d1:x<0
  ·rw [if_neg (by omega)] at hstep;cases hstep;have q1:decide (x<0)=true:=decide_eq_true d1
   clear d1;go_wp2;go_quiet (fail)
   go_wp2;go_ret;exact ⟨rfl,xa_ HN2.out _,HG2.out.trans (y9_ (y4_ (Below.refl _ _) _) _),HG2.out.size⟩
  by_cases d2:(fs.length:Int)≤x
  ·rw [if_neg (by omega)] at hstep;cases hstep;have q1:decide (x<0)=false:=decide_eq_false d1
   have q2:decide ((fs.length:Int)≤x)=true:=decide_eq_true d2
   clear d1 d2;go_wp2;go_quiet (fail)
   go_wp2;go_ret;exact ⟨rfl,xa_ HN2.out _,HG2.out.trans (y9_ (y4_ (Below.refl _ _) _) _),HG2.out.size⟩
  rw [if_pos (by omega)] at hstep;have d1':0≤x:=by omega
  have d2':x<(fs.length:Int):=by omega
  obtain ⟨adf,ef,hy⟩:=(own_reads' HF2.out).at_ x d1' d2';cases ef;have q1:decide (x<0)=false:=decide_eq_false d1
  have q2:decide ((fs.length:Int)≤x)=false:=decide_eq_false d2
  clear d1 d2;by_cases d3:rd fs x=m
  ·rw [if_pos d3] at hstep;have q3:(rd fs x==m)=true:=by simpa using d3
   have q4:(rd fs x != m)=false:=by simpa using d3
   have HS2:=a_ hstep;have D3:=a_ d3;clear hstep d3;go_wp2;go_quiet (fail)
   generalize hq:wr.drewN nq=wq;have HN4:=a_ (blk_at hq HN2.out);have HG4:z0_ (w.grownBy wq (some b)):=⟨by subst hq;exact HG2.out.trans (y9_ (y4_ (Below.refl _ _) _) _)⟩
   clear hq hn0 hnf ht0 hx hy;have hn4:=cell_of_one HN4.out;have hnf4:=free_of_one HN4.out;go_wp2;go_roundg (xs.length-(i+1))
   case measure=>omega
   case rel=>exact ⟨i+1,_,by omega,by omega,by rw [show wrap64 ((i:Int)+1)=((i+1:Nat):Int) by unfold wrap64;have:=HXL.out;omega],HS2,⟨one_setCell HN4.out⟩,⟨HG4.out.trans (grownBy_setCell' _ _ _)⟩⟩
  ·rw [if_neg d3] at hstep;cases hstep;have q3:(rd fs x==n')=false:=by simpa using d3
   have q4:(rd fs x != n')=true:=by simpa using d3
   clear d3;go_wp2;go_quiet (fail)
   go_wp2;go_ret;exact ⟨rfl,xa_ HN2.out _,HG2.out.trans (y9_ (y4_ (Below.refl _ _) _) _),HG2.out.size⟩
 ·have hil:i=xs.length:=by omega
  subst hil;have e0:=HH2.out;rw [List.drop_length] at e0;unfold y0_.g at e0
  cases e0;clear HH2;go_wp2;go_ret;exact ⟨rfl,HN2.out,HG2.out,HG2.out.size⟩):p:=h
theorem ua1b_4 {p:Prop} (h:p:=by
 clear c4;have HNA:=a_ (z5_ (z5_ HN.out (.cells #[.int .i64 3,.int .i64 K,.string (⟨#[]⟩:ByteArray),.slice B xs.length cB] 98)) (.cells #[.int .i64 3,.int .i64 K,.string (⟨#[]⟩:ByteArray),.slice none 0 0] 98));have HG:=a_ ((World.grownBy_alloc w (.cells #[.int .i64 3,.int .i64 K,.string (⟨#[]⟩:ByteArray),.slice B xs.length cB] 98) (some b)).trans (World.grownBy_alloc _ (.cells #[.int .i64 3,.int .i64 K,.string (⟨#[]⟩:ByteArray),.slice none 0 0] 98) (some b)));go_enter Tryz.func152,Tryz.ntmps152;go_wp2;exact ua1b_0):p:=h
theorem ua1b_1 {p:Prop} (h:p:=by
 clear c4;go_enter Tryz.func152,Tryz.ntmps152;go_wp2_with (go_at_call 113;refine (wk_.calls cls true _ HGC.out).mono ?_;rintro e w1 ⟨rfl,hd⟩;have HNA:=a_ (zd_ (z5_ (z5_ HN.out (.cells #[.int .i64 1,.int .i64 0,.string cls,.slice B xs.length cB] 98)) (.cells #[.int .i64 1,.int .i64 0,.string cls,.slice none 0 0] 98)) hd);have HG:=a_ (((World.grownBy_alloc w (.cells #[.int .i64 1,.int .i64 0,.string cls,.slice B xs.length cB] 98) (some b)).trans (World.grownBy_alloc _ (.cells #[.int .i64 1,.int .i64 0,.string cls,.slice none 0 0] 98) (some b))).trans (y9_ hd (some b)));have BA1:=zd_ (z5_ (wh_ w (.cells #[.int .i64 1,.int .i64 0,.string cls,.slice B xs.length cB] 98)) (.cells #[.int .i64 1,.int .i64 0,.string cls,.slice none 0 0] 98)) hd;have BP1:=zd_ (blk_new1 w (.cells #[.int .i64 1,.int .i64 0,.string cls,.slice B xs.length cB] 98) (.cells #[.int .i64 1,.int .i64 0,.string cls,.slice none 0 0] 98)) hd;have ha0:=(z1_ BA1 0).trans rfl;have ha1:=(z1_ BA1 1).trans rfl;have ha2:=(z1_ BA1 2).trans rfl;have ha3:=(z1_ BA1 3).trans rfl;have hp1:=(z1_ BP1 1).trans rfl;have hp2:=(z1_ BP1 2).trans rfl;simp only [List.getElem?_toArray,List.getElem?_cons_zero,List.getElem?_cons_succ] at ha0 ha1 ha2 ha3 hp1 hp2;clear hd BA1 BP1);exact ua1b_0):p:=h
set_option maxHeartbeats 8000000 in
set_option maxRecDepth 100000 in
theorem y0_.calls (kd K:Int) (cls:ByteArray) (B:Option Addr) (cB:Nat) (xs:List Int) (bt base:Nat) (AF:Option Addr) (cF:Nat) (vD:Value) (fs:List Int) (b:Nat) (n n':Int) (r:Bool) (w0 w:World) (hB:Below w0.heap.size w0 w) (hrx:Kd.C (Kd.int .i64) w0 B xs.length xs) (ht:w.heap[bt]?=some (.cells #[.slice AF fs.length cF,vD] 214 (0,0))) (hf:w.ownsRow base 3 1 (.slice AF fs.length cF) fs.length (nums .i64 fs)) (hne:some b≠(Value.slice AF fs.length cF).ownBlock) (hbb:w.heap[b]?=some (.cells #[.int .i64 n] 3 (0,0))) (hb0:w0.heap.size≤b) (h:y0_.f fs kd K cls xs n=some (r,n')):
  Calls Tryz.prog 152 #[.agg #[.int .i64 kd,.int .i64 K,.string cls,.slice B xs.length cB],.pointer (some ⟨bt,0,none⟩),.pointer (some ⟨b,0,none⟩)] w fun e w'=>e=.returned (.bool r)∧w'.heap[b]?=some (.cells #[.int .i64 n'] 3 (0,0))∧w.grownBy w' (some b)∧w.heap.size≤w'.heap.size:=by
 have hu2:=Tryz.underlying98;have hu3:=Tryz.underlying214;have HB:=a_ hB;have HX:=a_ hrx;have HB0:=a_ hb0;have HT:=a_ ht;have HF:=a_ hf;have HNE:=a_ hne;have HN:=a_ hbb;have HBT:z0_ (bt≠b):=⟨blk_ne ht hbb (by decide)⟩
 have HXL:z0_ (xs.length≤9223372036854775807):=⟨hrx.2.1⟩
 have HFL:z0_ (fs.length≤9223372036854775807):=⟨(own_reads' hf).2.1⟩
 clear hB hrx hb0 ht hf hne hbb;unfold y0_.f at h
 by_cases k1:kd=1
 ·subst k1;rw [if_pos rfl] at h;by_cases c1:goodClsB cls=true
  ·rw [if_pos c1] at h;have HGC:z0_ (wk_.f cls=some true):=⟨by rw [goodCls_some,c1]⟩
   clear c1;by_cases c2:K=0
   ·subst c2;rw [if_pos rfl] at h;by_cases c3:6<xs.length
    ·rw [if_pos c3] at h;cases h;have q1:decide ((6:Int)<(xs.length:Int))=true:=decide_eq_true (by omega)
     clear c3;go_enter Tryz.func152,Tryz.ntmps152;go_wp2_with (go_at_call 113;refine (wk_.calls cls true _ HGC.out).mono ?_;rintro e w1 ⟨rfl,hd⟩;have HNA:=a_ (zd_ (z5_ (z5_ HN.out (.cells #[.int .i64 1,.int .i64 0,.string cls,.slice B xs.length cB] 98)) (.cells #[.int .i64 1,.int .i64 0,.string cls,.slice none 0 0] 98)) hd);have HG:=a_ (((World.grownBy_alloc w (.cells #[.int .i64 1,.int .i64 0,.string cls,.slice B xs.length cB] 98) (some b)).trans (World.grownBy_alloc _ (.cells #[.int .i64 1,.int .i64 0,.string cls,.slice none 0 0] 98) (some b))).trans (y9_ hd (some b)));have BA1:=zd_ (z5_ (wh_ w (.cells #[.int .i64 1,.int .i64 0,.string cls,.slice B xs.length cB] 98)) (.cells #[.int .i64 1,.int .i64 0,.string cls,.slice none 0 0] 98)) hd;have BP1:=zd_ (blk_new1 w (.cells #[.int .i64 1,.int .i64 0,.string cls,.slice B xs.length cB] 98) (.cells #[.int .i64 1,.int .i64 0,.string cls,.slice none 0 0] 98)) hd;have ha0:=(z1_ BA1 0).trans rfl;have ha1:=(z1_ BA1 1).trans rfl;have ha2:=(z1_ BA1 2).trans rfl;have ha3:=(z1_ BA1 3).trans rfl;have hp1:=(z1_ BP1 1).trans rfl;have hp2:=(z1_ BP1 2).trans rfl;simp only [List.getElem?_toArray,List.getElem?_cons_zero,List.getElem?_cons_succ] at ha0 ha1 ha2 ha3 hp1 hp2;clear hd BA1 BP1);go_ret;exact ⟨rfl,HNA.out,HG.out,HG.out.size⟩
    ·rw [if_neg c3] at h;have HH:z0_ (y0_.g fs (xs.drop 0) n=some (r,n')):=⟨h⟩
     have q1:decide ((6:Int)<(xs.length:Int))=false:=decide_eq_false (by omega)
     clear c3 h;by_cases c4:0<xs.length
     ·have q2:decide ((0:Int)<(xs.length:Int))=true:=decide_eq_true (by omega)
      have q3:decide (0<xs.length)=true:=decide_eq_true (by omega)
      exact ua1b_1
     ·have q2:decide ((0:Int)<(xs.length:Int))=false:=decide_eq_false (by omega)
      have q3:decide (0<xs.length)=false:=decide_eq_false (by omega)
      exact ua1b_1
   ·rw [if_neg c2] at h;cases h;have q3:((0:Int)==K)=false:=by simpa using Ne.symm c2
    have q4:((0:Int) != K)=true:=by simpa using Ne.symm c2
    clear c2;go_enter Tryz.func152,Tryz.ntmps152;go_wp2_with (go_at_call 113;refine (wk_.calls cls true _ HGC.out).mono ?_;rintro e w1 ⟨rfl,hd⟩;have HNA:=a_ (zd_ (z5_ (z5_ HN.out (.cells #[.int .i64 1,.int .i64 K,.string cls,.slice B xs.length cB] 98)) (.cells #[.int .i64 1,.int .i64 0,.string cls,.slice none 0 0] 98)) hd);have HG:=a_ (((World.grownBy_alloc w (.cells #[.int .i64 1,.int .i64 K,.string cls,.slice B xs.length cB] 98) (some b)).trans (World.grownBy_alloc _ (.cells #[.int .i64 1,.int .i64 0,.string cls,.slice none 0 0] 98) (some b))).trans (y9_ hd (some b)));have BA1:=zd_ (z5_ (wh_ w (.cells #[.int .i64 1,.int .i64 K,.string cls,.slice B xs.length cB] 98)) (.cells #[.int .i64 1,.int .i64 0,.string cls,.slice none 0 0] 98)) hd;have BP1:=zd_ (blk_new1 w (.cells #[.int .i64 1,.int .i64 K,.string cls,.slice B xs.length cB] 98) (.cells #[.int .i64 1,.int .i64 0,.string cls,.slice none 0 0] 98)) hd;have ha0:=(z1_ BA1 0).trans rfl;have ha1:=(z1_ BA1 1).trans rfl;have ha2:=(z1_ BA1 2).trans rfl;have ha3:=(z1_ BA1 3).trans rfl;have hp1:=(z1_ BP1 1).trans rfl;have hp2:=(z1_ BP1 2).trans rfl;simp only [List.getElem?_toArray,List.getElem?_cons_zero,List.getElem?_cons_succ] at ha0 ha1 ha2 ha3 hp1 hp2;clear hd BA1 BP1);go_ret;exact ⟨rfl,HNA.out,HG.out,HG.out.size⟩
  ·rw [if_neg c1] at h;cases h;have HGC:z0_ (wk_.f cls=some false):=⟨by rw [goodCls_some,Bool.eq_false_iff.2 c1]⟩
   clear c1;go_enter Tryz.func152,Tryz.ntmps152;go_wp2_with (go_at_call 113;refine (wk_.calls cls false _ HGC.out).mono ?_;rintro e w1 ⟨rfl,hd⟩;have HNA:=a_ (zd_ (z5_ (z5_ HN.out (.cells #[.int .i64 1,.int .i64 K,.string cls,.slice B xs.length cB] 98)) (.cells #[.int .i64 1,.int .i64 0,.string cls,.slice none 0 0] 98)) hd);have HG:=a_ (((World.grownBy_alloc w (.cells #[.int .i64 1,.int .i64 K,.string cls,.slice B xs.length cB] 98) (some b)).trans (World.grownBy_alloc _ (.cells #[.int .i64 1,.int .i64 0,.string cls,.slice none 0 0] 98) (some b))).trans (y9_ hd (some b)));have BA1:=zd_ (z5_ (wh_ w (.cells #[.int .i64 1,.int .i64 K,.string cls,.slice B xs.length cB] 98)) (.cells #[.int .i64 1,.int .i64 0,.string cls,.slice none 0 0] 98)) hd;have BP1:=zd_ (blk_new1 w (.cells #[.int .i64 1,.int .i64 K,.string cls,.slice B xs.length cB] 98) (.cells #[.int .i64 1,.int .i64 0,.string cls,.slice none 0 0] 98)) hd;have ha0:=(z1_ BA1 0).trans rfl;have ha1:=(z1_ BA1 1).trans rfl;have ha2:=(z1_ BA1 2).trans rfl;have ha3:=(z1_ BA1 3).trans rfl;have hp1:=(z1_ BP1 1).trans rfl;have hp2:=(z1_ BP1 2).trans rfl;simp only [List.getElem?_toArray,List.getElem?_cons_zero,List.getElem?_cons_succ] at ha0 ha1 ha2 ha3 hp1 hp2;clear hd BA1 BP1);go_ret;exact ⟨rfl,HNA.out,HG.out,HG.out.size⟩
 by_cases k2:kd=2
 ·subst k2;clear k1;rw [if_neg (by decide),if_pos rfl] at h;by_cases c2:cls.toList=[]
  ·rw [if_pos c2] at h;have c3:cls=⟨#[]⟩:=ag_ba c2
   subst c3;clear c2;by_cases c4:K < -1000000
   ·rw [if_pos c4] at h;cases h;have q4:decide (K < -1000000)=true:=ct_ c4
    clear c4;have HNA:=a_ (z5_ (z5_ HN.out (.cells #[.int .i64 2,.int .i64 K,.string (⟨#[]⟩:ByteArray),.slice B xs.length cB] 98)) (.cells #[.int .i64 2,.int .i64 K,.string (⟨#[]⟩:ByteArray),.slice none 0 0] 98));have HG:=a_ ((World.grownBy_alloc w (.cells #[.int .i64 2,.int .i64 K,.string (⟨#[]⟩:ByteArray),.slice B xs.length cB] 98) (some b)).trans (World.grownBy_alloc _ (.cells #[.int .i64 2,.int .i64 K,.string (⟨#[]⟩:ByteArray),.slice none 0 0] 98) (some b)));go_enter Tryz.func152,Tryz.ntmps152;go_wp2;go_ret;exact ⟨rfl,HNA.out,HG.out,HG.out.size⟩
   rw [if_neg c4] at h;have q4:decide (K < -1000000)=false:=cf_ c4
   clear c4;by_cases c5:1000000<K
   ·rw [if_pos c5] at h;cases h;have q5:decide (1000000<K)=true:=ct_ c5
    clear c5;have HNA:=a_ (z5_ (z5_ HN.out (.cells #[.int .i64 2,.int .i64 K,.string (⟨#[]⟩:ByteArray),.slice B xs.length cB] 98)) (.cells #[.int .i64 2,.int .i64 K,.string (⟨#[]⟩:ByteArray),.slice none 0 0] 98));have HG:=a_ ((World.grownBy_alloc w (.cells #[.int .i64 2,.int .i64 K,.string (⟨#[]⟩:ByteArray),.slice B xs.length cB] 98) (some b)).trans (World.grownBy_alloc _ (.cells #[.int .i64 2,.int .i64 K,.string (⟨#[]⟩:ByteArray),.slice none 0 0] 98) (some b)));go_enter Tryz.func152,Tryz.ntmps152;go_wp2;go_ret;exact ⟨rfl,HNA.out,HG.out,HG.out.size⟩
   rw [if_neg c5] at h;have q5:decide (1000000<K)=false:=cf_ c5
   clear c5;by_cases c1:xs=[]
   ·subst c1;rw [if_pos rfl] at h;cases h;have HNA:=a_ (z5_ (z5_ HN.out (.cells #[.int .i64 2,.int .i64 K,.string (⟨#[]⟩:ByteArray),.slice B 0 cB] 98)) (.cells #[.int .i64 2,.int .i64 K,.string (⟨#[]⟩:ByteArray),.slice none 0 0] 98));have HG:=a_ ((World.grownBy_alloc w (.cells #[.int .i64 2,.int .i64 K,.string (⟨#[]⟩:ByteArray),.slice B 0 cB] 98) (some b)).trans (World.grownBy_alloc _ (.cells #[.int .i64 2,.int .i64 K,.string (⟨#[]⟩:ByteArray),.slice none 0 0] 98) (some b)));go_enter Tryz.func152,Tryz.ntmps152;go_wp2;go_loopg [77] 0 (fun gg v77 wr=>v77=.int .i64 0∧z0_ (wr.heap[b]?=some (.cells #[.int .i64 n] 3 (0,0)))∧z0_ (w.grownBy wr (some b)))
    case atStart=>exact ⟨rfl,HNA,HG⟩
    obtain ⟨rfl,HN2,HG2⟩:=hrel;go_wp2;go_ret;exact ⟨rfl,HN2.out,HG2.out,HG2.out.size⟩
   ·rw [if_neg c1] at h;cases h;have c3:0<xs.length:=by cases xs with|nil=>exact absurd rfl c1|cons a l=>simp
    have q2:decide ((0:Int)<(xs.length:Int))=true:=decide_eq_true (by omega)
    have q3:decide (0<xs.length)=true:=ct_ c3
    clear c1 c3;by_cases c4:6<xs.length
    ·have q1:decide ((6:Int)<(xs.length:Int))=true:=decide_eq_true (by omega)
     exact ua1b_2
    ·have q1:decide ((6:Int)<(xs.length:Int))=false:=decide_eq_false (by omega)
     exact ua1b_2
  ·rw [if_neg c2] at h;cases h;have s1:(cls.toList==([]:List UInt8))=false:=beq_eq_false_iff_ne.mpr c2
   have s2:(([]:List UInt8)==cls.toList)=false:=beq_eq_false_iff_ne.mpr (Ne.symm c2)
   have s3:cls.toList.isEmpty=false:=by simpa using c2
   have s4:(([]:List UInt8) != cls.toList)=true:=bne_iff_ne.mpr (Ne.symm c2)
   have s5:(cls.toList != ([]:List UInt8))=true:=bne_iff_ne.mpr c2
   clear c2;have HNA:=a_ (z5_ (z5_ HN.out (.cells #[.int .i64 2,.int .i64 K,.string cls,.slice B xs.length cB] 98)) (.cells #[.int .i64 2,.int .i64 K,.string (⟨#[]⟩:ByteArray),.slice none 0 0] 98));have HG:=a_ ((World.grownBy_alloc w (.cells #[.int .i64 2,.int .i64 K,.string cls,.slice B xs.length cB] 98) (some b)).trans (World.grownBy_alloc _ (.cells #[.int .i64 2,.int .i64 K,.string (⟨#[]⟩:ByteArray),.slice none 0 0] 98) (some b)));go_enter Tryz.func152,Tryz.ntmps152;go_wp2;go_ret;exact ⟨rfl,HNA.out,HG.out,HG.out.size⟩
 by_cases k3:kd=3
 ·subst k3;clear k1 k2;rw [if_neg (by decide),if_neg (by decide),if_pos rfl] at h;by_cases c2:cls.toList=[]
  ·rw [if_pos c2] at h;have c3:cls=⟨#[]⟩:=ag_ba c2
   subst c3;clear c2;by_cases c4:K < -1000000
   ·rw [if_pos c4] at h;cases h;have q4:decide (K < -1000000)=true:=ct_ c4
    clear c4;have HNA:=a_ (z5_ (z5_ HN.out (.cells #[.int .i64 3,.int .i64 K,.string (⟨#[]⟩:ByteArray),.slice B xs.length cB] 98)) (.cells #[.int .i64 3,.int .i64 K,.string (⟨#[]⟩:ByteArray),.slice none 0 0] 98));have HG:=a_ ((World.grownBy_alloc w (.cells #[.int .i64 3,.int .i64 K,.string (⟨#[]⟩:ByteArray),.slice B xs.length cB] 98) (some b)).trans (World.grownBy_alloc _ (.cells #[.int .i64 3,.int .i64 K,.string (⟨#[]⟩:ByteArray),.slice none 0 0] 98) (some b)));go_enter Tryz.func152,Tryz.ntmps152;go_wp2;go_ret;exact ⟨rfl,HNA.out,HG.out,HG.out.size⟩
   rw [if_neg c4] at h;have q4:decide (K < -1000000)=false:=cf_ c4
   clear c4;by_cases c5:1000000<K
   ·rw [if_pos c5] at h;cases h;have q5:decide (1000000<K)=true:=ct_ c5
    clear c5;have HNA:=a_ (z5_ (z5_ HN.out (.cells #[.int .i64 3,.int .i64 K,.string (⟨#[]⟩:ByteArray),.slice B xs.length cB] 98)) (.cells #[.int .i64 3,.int .i64 K,.string (⟨#[]⟩:ByteArray),.slice none 0 0] 98));have HG:=a_ ((World.grownBy_alloc w (.cells #[.int .i64 3,.int .i64 K,.string (⟨#[]⟩:ByteArray),.slice B xs.length cB] 98) (some b)).trans (World.grownBy_alloc _ (.cells #[.int .i64 3,.int .i64 K,.string (⟨#[]⟩:ByteArray),.slice none 0 0] 98) (some b)));go_enter Tryz.func152,Tryz.ntmps152;go_wp2;go_ret;exact ⟨rfl,HNA.out,HG.out,HG.out.size⟩
   rw [if_neg c5] at h;have q5:decide (1000000<K)=false:=cf_ c5
   clear c5;by_cases c3:6<xs.length
   ·rw [if_pos c3] at h;cases h;have q1:decide ((6:Int)<(xs.length:Int))=true:=decide_eq_true (by omega)
    clear c3;have HNA:=a_ (z5_ (z5_ HN.out (.cells #[.int .i64 3,.int .i64 K,.string (⟨#[]⟩:ByteArray),.slice B xs.length cB] 98)) (.cells #[.int .i64 3,.int .i64 K,.string (⟨#[]⟩:ByteArray),.slice none 0 0] 98));have HG:=a_ ((World.grownBy_alloc w (.cells #[.int .i64 3,.int .i64 K,.string (⟨#[]⟩:ByteArray),.slice B xs.length cB] 98) (some b)).trans (World.grownBy_alloc _ (.cells #[.int .i64 3,.int .i64 K,.string (⟨#[]⟩:ByteArray),.slice none 0 0] 98) (some b)));go_enter Tryz.func152,Tryz.ntmps152;go_wp2;go_ret;exact ⟨rfl,HNA.out,HG.out,HG.out.size⟩
   ·rw [if_neg c3] at h;have HH:z0_ (y0_.g fs (xs.drop 0) n=some (r,n')):=⟨h⟩
    have q1:decide ((6:Int)<(xs.length:Int))=false:=decide_eq_false (by omega)
    clear c3 h;by_cases c4:0<xs.length
    ·have q2:decide ((0:Int)<(xs.length:Int))=true:=decide_eq_true (by omega)
     have q3:decide (0<xs.length)=true:=decide_eq_true (by omega)
     exact ua1b_4
    ·have q2:decide ((0:Int)<(xs.length:Int))=false:=decide_eq_false (by omega)
     have q3:decide (0<xs.length)=false:=decide_eq_false (by omega)
     exact ua1b_4
  ·rw [if_neg c2] at h;cases h;have s1:(cls.toList==([]:List UInt8))=false:=beq_eq_false_iff_ne.mpr c2
   have s2:(([]:List UInt8)==cls.toList)=false:=beq_eq_false_iff_ne.mpr (Ne.symm c2)
   have s3:cls.toList.isEmpty=false:=by simpa using c2
   have s4:(([]:List UInt8) != cls.toList)=true:=bne_iff_ne.mpr (Ne.symm c2)
   have s5:(cls.toList != ([]:List UInt8))=true:=bne_iff_ne.mpr c2
   clear c2;have HNA:=a_ (z5_ (z5_ HN.out (.cells #[.int .i64 3,.int .i64 K,.string cls,.slice B xs.length cB] 98)) (.cells #[.int .i64 3,.int .i64 K,.string (⟨#[]⟩:ByteArray),.slice none 0 0] 98));have HG:=a_ ((World.grownBy_alloc w (.cells #[.int .i64 3,.int .i64 K,.string cls,.slice B xs.length cB] 98) (some b)).trans (World.grownBy_alloc _ (.cells #[.int .i64 3,.int .i64 K,.string (⟨#[]⟩:ByteArray),.slice none 0 0] 98) (some b)));go_enter Tryz.func152,Tryz.ntmps152;go_wp2;go_ret;exact ⟨rfl,HNA.out,HG.out,HG.out.size⟩
 by_cases k4:kd=4
 ·subst k4;clear k1 k2 k3;rw [if_neg (by decide),if_neg (by decide),if_neg (by decide),if_pos rfl] at h;by_cases c2:cls.toList=[]
  ·rw [if_pos c2] at h;have c3:cls=⟨#[]⟩:=ag_ba c2
   subst c3;clear c2;by_cases c4:K=0
   rotate_left
   ·rw [if_neg c4] at h;cases h;have q4:((0:Int)==K)=false:=by simpa using Ne.symm c4
    have q5:((0:Int) != K)=true:=by simpa using Ne.symm c4
    clear c4;have HNA:=a_ (z5_ (z5_ HN.out (.cells #[.int .i64 4,.int .i64 K,.string (⟨#[]⟩:ByteArray),.slice B xs.length cB] 98)) (.cells #[.int .i64 4,.int .i64 0,.string (⟨#[]⟩:ByteArray),.slice none 0 0] 98));have HG:=a_ ((World.grownBy_alloc w (.cells #[.int .i64 4,.int .i64 K,.string (⟨#[]⟩:ByteArray),.slice B xs.length cB] 98) (some b)).trans (World.grownBy_alloc _ (.cells #[.int .i64 4,.int .i64 0,.string (⟨#[]⟩:ByteArray),.slice none 0 0] 98) (some b)));go_enter Tryz.func152,Tryz.ntmps152;go_wp2;go_ret;exact ⟨rfl,HNA.out,HG.out,HG.out.size⟩
   subst c4;rw [if_pos rfl] at h;by_cases c1:xs=[]
   ·subst c1;rw [if_pos rfl] at h;cases h;have HNA:=a_ (z5_ (z5_ HN.out (.cells #[.int .i64 4,.int .i64 0,.string (⟨#[]⟩:ByteArray),.slice B 0 cB] 98)) (.cells #[.int .i64 4,.int .i64 0,.string (⟨#[]⟩:ByteArray),.slice none 0 0] 98));have HG:=a_ ((World.grownBy_alloc w (.cells #[.int .i64 4,.int .i64 0,.string (⟨#[]⟩:ByteArray),.slice B 0 cB] 98) (some b)).trans (World.grownBy_alloc _ (.cells #[.int .i64 4,.int .i64 0,.string (⟨#[]⟩:ByteArray),.slice none 0 0] 98) (some b)));go_enter Tryz.func152,Tryz.ntmps152;go_wp2;go_loopg [77] 0 (fun gg v77 wr=>v77=.int .i64 0∧z0_ (wr.heap[b]?=some (.cells #[.int .i64 n] 3 (0,0)))∧z0_ (w.grownBy wr (some b)))
    case atStart=>exact ⟨rfl,HNA,HG⟩
    obtain ⟨rfl,HN2,HG2⟩:=hrel;go_wp2;go_ret;exact ⟨rfl,HN2.out,HG2.out,HG2.out.size⟩
   ·rw [if_neg c1] at h;cases h;have c3:0<xs.length:=by cases xs with|nil=>exact absurd rfl c1|cons a l=>simp
    have q2:decide ((0:Int)<(xs.length:Int))=true:=decide_eq_true (by omega)
    have q3:decide (0<xs.length)=true:=ct_ c3
    clear c1 c3;by_cases c4:6<xs.length
    ·have q1:decide ((6:Int)<(xs.length:Int))=true:=decide_eq_true (by omega)
     exact ua1b_3
    ·have q1:decide ((6:Int)<(xs.length:Int))=false:=decide_eq_false (by omega)
     exact ua1b_3
  ·rw [if_neg c2] at h;cases h;have s1:(cls.toList==([]:List UInt8))=false:=beq_eq_false_iff_ne.mpr c2
   have s2:(([]:List UInt8)==cls.toList)=false:=beq_eq_false_iff_ne.mpr (Ne.symm c2)
   have s3:cls.toList.isEmpty=false:=by simpa using c2
   have s4:(([]:List UInt8) != cls.toList)=true:=bne_iff_ne.mpr (Ne.symm c2)
   have s5:(cls.toList != ([]:List UInt8))=true:=bne_iff_ne.mpr c2
   clear c2;have HNA:=a_ (z5_ (z5_ HN.out (.cells #[.int .i64 4,.int .i64 K,.string cls,.slice B xs.length cB] 98)) (.cells #[.int .i64 4,.int .i64 0,.string (⟨#[]⟩:ByteArray),.slice none 0 0] 98));have HG:=a_ ((World.grownBy_alloc w (.cells #[.int .i64 4,.int .i64 K,.string cls,.slice B xs.length cB] 98) (some b)).trans (World.grownBy_alloc _ (.cells #[.int .i64 4,.int .i64 0,.string (⟨#[]⟩:ByteArray),.slice none 0 0] 98) (some b)));go_enter Tryz.func152,Tryz.ntmps152;go_wp2;go_ret;exact ⟨rfl,HNA.out,HG.out,HG.out.size⟩
 rw [if_neg k1,if_neg k2,if_neg k3,if_neg k4] at h;cases h;have p1:(kd==1)=false:=by simpa using k1
 have p2:(kd==2)=false:=by simpa using k2
 have p3:(kd==3)=false:=by simpa using k3
 have p4:(kd==4)=false:=by simpa using k4
 clear k1 k2 k3 k4;have HNA:=a_ (z5_ (z5_ HN.out (.cells #[.int .i64 kd,.int .i64 K,.string cls,.slice B xs.length cB] 98)) (.cells #[.int .i64 kd,.int .i64 0,.string (⟨#[]⟩:ByteArray),.slice none 0 0] 98));have HG:=a_ ((World.grownBy_alloc w (.cells #[.int .i64 kd,.int .i64 K,.string cls,.slice B xs.length cB] 98) (some b)).trans (World.grownBy_alloc _ (.cells #[.int .i64 kd,.int .i64 0,.string (⟨#[]⟩:ByteArray),.slice none 0 0] 98) (some b)));go_enter Tryz.func152,Tryz.ntmps152;go_wp2;go_ret;exact ⟨rfl,HNA.out,HG.out,HG.out.size⟩
def sf_p:List S42→Nat→Int
 | [],_=>-1
 | p::ps,i=>if wo_ p.f1 p.f2=true then sf_p ps (i+1) else (i:Int)+1
def sf_e (es:List S161):Nat→List Int→List Int→Option (Int×List Int×List Int)
 | 0,fs,ds=>some (-1,fs,ds)
 | m+1,fs,ds=>(w4_.f es fs ds).bind fun y=>if y.1=true then sf_e es m y.2.1 y.2.2 else some ((fs.length:Int)+1,y.2.1,y.2.2)
def sf_a (fs:List Int):List S98→Nat→Int→Option (Int×Int)
 | [],_,n=>some (-1,n)
 | a::as_,i,n=>(y0_.f fs a.f0 a.f1 a.f2 a.f3 n).bind fun y=>if y.1=true then sf_a fs as_ (i+1) y.2 else some ((i:Int)+1,y.2)
def xq_.f (nm:ByteArray) (sa:Int) (ps:List S42) (es:List S161) (as_:List S98):Option Int:=
 if xm_ nm=true then (if 6<ps.length then some 0 else if 8<as_.length then some 0 else if 60<es.length then some 0 else
  if sf_p ps 0=-1 then (sf_e es es.length [] []).bind fun e=>if e.1=-1 then (sf_a e.2.1 as_ 0 0).bind fun a=>if a.1=-1 then (if a.2=(es.length:Int) then some (-1) else some ((as_.length:Int)+1)) else some a.1 else some e.1 else some (sf_p ps 0)) else some 0
theorem sf_p_cons (ps:List S42) (i:Nat) (h:i<ps.length) (p:Int) (hg:sf_p (ps.drop i) i=p):(if wo_ (zq_ ps (i:Int)).f1 (zq_ ps (i:Int)).f2=true then sf_p (ps.drop (i+1)) (i+1) else (i:Int)+1)=p:=by
 have e:zq_ ps (i:Int)=ps[i]:=by
  unfold zq_
  simp [h]
 rw [List.drop_eq_getElem_cons h] at hg;unfold sf_p at hg
 rw [e];exact hg
theorem sf_e_cons (es:List S161) (m i:Nat) (h:i<m) (fs ds:List Int) (p:Int×List Int×List Int) (hg:sf_e es (m-i) fs ds=some p):((w4_.f es fs ds).bind fun y=>if y.1=true then sf_e es (m-(i+1)) y.2.1 y.2.2 else some ((fs.length:Int)+1,y.2.1,y.2.2))=some p:=by
 rw [show m-i=(m-(i+1))+1 by omega] at hg;exact hg
theorem sf_a_cons (fs:List Int) (as_:List S98) (i:Nat) (n:Int) (h:i<as_.length) (p:Int×Int) (hg:sf_a fs (as_.drop i) i n=some p):((y0_.f fs (y3_ as_ (i:Int)).f0 (y3_ as_ (i:Int)).f1 (y3_ as_ (i:Int)).f2 (y3_ as_ (i:Int)).f3 n).bind fun y=>if y.1=true then sf_a fs (as_.drop (i+1)) (i+1) y.2 else some ((i:Int)+1,y.2))=some p:=by
 have e:y3_ as_ (i:Int)=as_[i]:=by
  unfold y3_
  simp [h]
 rw [List.drop_eq_getElem_cons h] at hg;unfold sf_a at hg
 rw [e];exact hg
theorem grow_len {es:List S161} {fs ds fs' ds':List Int} {r:Bool} (h:w4_.f es fs ds=some (r,fs',ds')):fs'.length=fs.length+1∧ds'.length=ds.length+1:=by
 unfold w4_.f at h
 split at h
 ·dsimp only at h
  repeat' split at h
  all_goals first|(cases h;done)|(have:=Option.some.inj h;simp only [Prod.mk.injEq] at this;obtain ⟨_,rfl,rfl⟩:=this;simp)
 ·cases h
set_option maxHeartbeats 8000000 in
set_option maxRecDepth 100000 in
theorem xq_.walk (nm:ByteArray) (sa:Int) (A2:Option Addr) (c2:Nat) (ps:List S42) (A3:Option Addr) (c3:Nat) (es:List S161) (A4:Option Addr) (c4:Nat) (as_:List S98) (r:Int) (w:World) (hr2:Kd.C k42 w A2 ps.length ps) (hr3:Kd.C k161 w A3 es.length es) (hc3:es.length≤c3) (hr4:Kd.C k98 w A4 as_.length as_) (h:xq_.f nm sa ps es as_=some r):
  Calls Tryz.prog 109 #[.agg #[.string nm,.int .i64 sa,.slice A2 ps.length c2,.slice A3 es.length c3,.slice A4 as_.length c4]] w fun e w'=>e=.returned (.int .i64 r)∧Below w.heap.size w w':=by
 have hu:=Tryz.underlying39;have hu2:=Tryz.underlying98;have hu3:=Tryz.underlying42;have hu4:=Tryz.underlying214;have HB:=a_ (z3_ (Below.refl w.heap.size w) (.cells #[.string nm,.int .i64 sa,.slice A2 ps.length c2,.slice A3 es.length c3,.slice A4 as_.length c4] 39));have BK:=a_ (wh_ w (.cells #[.string nm,.int .i64 sa,.slice A2 ps.length c2,.slice A3 es.length c3,.slice A4 as_.length c4] 39));have HR2:=a_ hr2;have HR3:=a_ hr3;have HC3:=a_ hc3;have HR4:=a_ hr4;clear hr2 hr3 hc3 hr4;unfold xq_.f at h
 cases hg:xm_ nm with
 | false=>
  rw [hg,if_neg (by simp)] at h;cases h;have HG:z0_ (xe_.f nm=some false):=⟨by unfold xe_.f;rw [hg]⟩
  clear hg;go_enter Tryz.func109,Tryz.ntmps109;go_wp2_with (go_at_call 67;refine (xe_.calls nm false _ HG.out).mono ?_;rintro e w1 ⟨rfl,hd⟩;have HB1:z0_ (Below w.heap.size w w1):=⟨y7_ HB.out hd⟩;have BK1:=a_ (zd_ BK.out hd);have ha0:=(z1_ BK1.out 0).trans rfl;have ha1:=(z1_ BK1.out 1).trans rfl;have ha2:=(z1_ BK1.out 2).trans rfl;have ha3:=(z1_ BK1.out 3).trans rfl;have ha4:=(z1_ BK1.out 4).trans rfl;simp only [List.getElem?_toArray,List.getElem?_cons_zero,List.getElem?_cons_succ] at ha0 ha1 ha2 ha3 ha4;clear hd);go_ret;exact ⟨rfl,HB1.out⟩
 | true=>
 rw [hg,if_pos rfl] at h;have HG:z0_ (xe_.f nm=some true):=⟨by unfold xe_.f;rw [hg]⟩
 clear hg;by_cases c1:6<ps.length
 ·rw [if_pos c1] at h;cases h;have q1:decide ((6:Int)<(ps.length:Int))=true:=decide_eq_true (by omega)
  clear c1;go_enter Tryz.func109,Tryz.ntmps109;go_wp2_with (go_at_call 67;refine (xe_.calls nm true _ HG.out).mono ?_;rintro e w1 ⟨rfl,hd⟩;have HB1:z0_ (Below w.heap.size w w1):=⟨y7_ HB.out hd⟩;have BK1:=a_ (zd_ BK.out hd);have ha0:=(z1_ BK1.out 0).trans rfl;have ha1:=(z1_ BK1.out 1).trans rfl;have ha2:=(z1_ BK1.out 2).trans rfl;have ha3:=(z1_ BK1.out 3).trans rfl;have ha4:=(z1_ BK1.out 4).trans rfl;simp only [List.getElem?_toArray,List.getElem?_cons_zero,List.getElem?_cons_succ] at ha0 ha1 ha2 ha3 ha4;clear hd);go_ret;exact ⟨rfl,HB1.out⟩
 rw [if_neg c1] at h;have q1:decide ((6:Int)<(ps.length:Int))=false:=decide_eq_false (by omega)
 by_cases c2:8<as_.length
 ·rw [if_pos c2] at h;cases h;have q2:decide ((8:Int)<(as_.length:Int))=true:=decide_eq_true (by omega)
  clear c1 c2;go_enter Tryz.func109,Tryz.ntmps109;go_wp2_with (go_at_call 67;refine (xe_.calls nm true _ HG.out).mono ?_;rintro e w1 ⟨rfl,hd⟩;have HB1:z0_ (Below w.heap.size w w1):=⟨y7_ HB.out hd⟩;have BK1:=a_ (zd_ BK.out hd);have ha0:=(z1_ BK1.out 0).trans rfl;have ha1:=(z1_ BK1.out 1).trans rfl;have ha2:=(z1_ BK1.out 2).trans rfl;have ha3:=(z1_ BK1.out 3).trans rfl;have ha4:=(z1_ BK1.out 4).trans rfl;simp only [List.getElem?_toArray,List.getElem?_cons_zero,List.getElem?_cons_succ] at ha0 ha1 ha2 ha3 ha4;clear hd);go_ret;exact ⟨rfl,HB1.out⟩
 rw [if_neg c2] at h;have q2:decide ((8:Int)<(as_.length:Int))=false:=decide_eq_false (by omega)
 by_cases c3:60<es.length
 ·rw [if_pos c3] at h;cases h;have q3:decide ((60:Int)<(es.length:Int))=true:=decide_eq_true (by omega)
  clear c1 c2 c3;go_enter Tryz.func109,Tryz.ntmps109;go_wp2_with (go_at_call 67;refine (xe_.calls nm true _ HG.out).mono ?_;rintro e w1 ⟨rfl,hd⟩;have HB1:z0_ (Below w.heap.size w w1):=⟨y7_ HB.out hd⟩;have BK1:=a_ (zd_ BK.out hd);have ha0:=(z1_ BK1.out 0).trans rfl;have ha1:=(z1_ BK1.out 1).trans rfl;have ha2:=(z1_ BK1.out 2).trans rfl;have ha3:=(z1_ BK1.out 3).trans rfl;have ha4:=(z1_ BK1.out 4).trans rfl;simp only [List.getElem?_toArray,List.getElem?_cons_zero,List.getElem?_cons_succ] at ha0 ha1 ha2 ha3 ha4;clear hd);go_ret;exact ⟨rfl,HB1.out⟩
 rw [if_neg c3] at h;have q3:decide ((60:Int)<(es.length:Int))=false:=decide_eq_false (by omega)
 have C1:z0_ (ps.length≤6):=⟨by omega⟩
 have C2:z0_ (as_.length≤8):=⟨by omega⟩
 have C3:z0_ (es.length≤60):=⟨by omega⟩
 clear c1 c2 c3;obtain ⟨p,hp⟩:∃p,sf_p ps 0=p:=⟨_,rfl⟩;rw [hp] at h;have HP:z0_ (sf_p (ps.drop 0) 0=p):=⟨hp⟩
 have HH:=a_ h;clear hp h;go_enter Tryz.func109,Tryz.ntmps109;go_wp2_with (go_at_call 67;refine (xe_.calls nm true _ HG.out).mono ?_;rintro e w1 ⟨rfl,hd⟩;have HB1:z0_ (Below w.heap.size w w1):=⟨y7_ HB.out hd⟩;have BK1:=a_ (zd_ BK.out hd);have ha0:=(z1_ BK1.out 0).trans rfl;have ha1:=(z1_ BK1.out 1).trans rfl;have ha2:=(z1_ BK1.out 2).trans rfl;have ha3:=(z1_ BK1.out 3).trans rfl;have ha4:=(z1_ BK1.out 4).trans rfl;simp only [List.getElem?_toArray,List.getElem?_cons_zero,List.getElem?_cons_succ] at ha0 ha1 ha2 ha3 ha4;clear hd);go_loopg [35] ps.length (fun gg v35 wr=>∃i:Nat,i≤ps.length∧ps.length-i≤gg∧v35=.int .i64 (i:Int)∧z0_ (sf_p (ps.drop i) i=p)∧z0_ (Below w.heap.size w wr)∧z0_ (wr.heap[w.heap.size]?=some (.cells #[.string nm,.int .i64 sa,.slice A2 ps.length c2,.slice A3 es.length c3,.slice A4 as_.length c4] 39 (0,0))))
 case atStart=>exact ⟨0,Nat.zero_le _,Nat.le_refl _,rfl,HP,HB1,BK1⟩
 obtain ⟨i,hi,hgg,rfl,HP2,HB2,BK2⟩:=hrel;by_cases hlt:i<ps.length
 ·have hz:(i:Int)<(ps.length:Int):=by omega
  have hz0:(0:Int)≤(i:Int):=by omega
  obtain ⟨ad,A5,c5,e0,hx0,hx1,hx2,hl5,hC5⟩:=at_T42 HR2.out (i:Int) hz0 hz;cases e0;replace hx0:=(HB2.out.cell (World.block_lt_of_cell? w _ hx0)).trans hx0;replace hx1:=(HB2.out.cell (World.block_lt_of_cell? w _ hx1)).trans hx1;replace hx2:=(HB2.out.cell (World.block_lt_of_cell? w _ hx2)).trans hx2;simp only [Int.toNat_natCast] at hx0 hx1 hx2;have HC5:=a_ hC5;have HL5:=a_ hl5;clear hC5 hl5;have hst:=sf_p_cons ps i hlt p HP2.out;generalize zq_ ps (i:Int)=p5 at *;cases hg5:wo_ p5.f1 p5.f2 with
  | false=>
   have HG5:z0_ (xn_.f p5.f0 p5.f1 p5.f2=some false):=⟨by unfold xn_.f;rw [hg5]⟩
   rw [hg5,if_neg (by simp)] at hst;clear hg5;have hrr:=HH.out;rw [if_neg (by omega)] at hrr;have hr2:=Option.some.inj hrr;subst hr2;have HPI:z0_ ((i:Int)+1=p):=⟨hst⟩
   clear hst hrr;go_wp2_with (go_at_call 64;refine (xn_.calls p5.f0 p5.f1 A5 c5 p5.f2 false _ (Kd.xo_ HC5.out (by repeat (first|exact HB2.out|apply z3_))) HL5.out HG5.out).mono ?_;rintro e w3 ⟨rfl,hd⟩;have HB3:z0_ (Below w.heap.size w w3):=⟨y7_ (by repeat (first|exact HB2.out|apply z3_)) hd⟩;clear hd);go_ret;exact ⟨by rw [←HPI.out,show wrap64 ((i:Int)+1)=(i:Int)+1 by unfold wrap64;have:=C1.out;omega];rfl,HB3.out⟩
  | true=>
   have HG5:z0_ (xn_.f p5.f0 p5.f1 p5.f2=some true):=⟨by unfold xn_.f;rw [hg5]⟩
   rw [hg5,if_pos rfl] at hst;clear hg5;have HST:=a_ hst;clear hst;go_wp2_with (go_at_call 64;refine (xn_.calls p5.f0 p5.f1 A5 c5 p5.f2 true _ (Kd.xo_ HC5.out (by repeat (first|exact HB2.out|apply z3_))) HL5.out HG5.out).mono ?_;rintro e w3 ⟨rfl,hd⟩;have HB3:z0_ (Below w.heap.size w w3):=⟨y7_ (by repeat (first|exact HB2.out|apply z3_)) hd⟩;have BK3:=a_ (zd_ (z5_ BK2.out (.cells #[.bool p5.f0,.string p5.f1,.slice A5 p5.f2.length c5] 42)) hd);clear hd);go_roundg (ps.length-(i+1))
   case measure=>omega
   case rel=>exact ⟨i+1,by omega,by omega,by rw [show wrap64 ((i:Int)+1)=((i+1:Nat):Int) by unfold wrap64;have:=C1.out;omega],HST,HB3,BK3⟩
 ·have hil:i=ps.length:=by omega
  subst hil;have e0:=HP2.out;rw [List.drop_length] at e0;unfold sf_p at e0
  subst e0;have h2:=HH.out;rw [if_pos rfl] at h2;obtain ⟨ee,he,h2⟩:=Option.bind_eq_some_iff.1 h2;have HE:z0_ (sf_e es (es.length-0) [] []=some ee):=⟨he⟩
  have HH2:=a_ h2;clear he h2 HP2 HH HP;obtain ⟨wq,hwq⟩:∃x,x=wr:=⟨_,rfl⟩;subst hwq;have hs0:w.heap.size+1≤wq.heap.size:=lt_of_block BK2.out
  have HS0:=a_ hs0;have ha3':=(z1_ BK2.out 3).trans rfl;have hb3':=(z1_ (z5_ BK2.out (.cells #[.slice none 0 0,.slice none 0 0] 214)) 3).trans rfl;simp only [List.getElem?_toArray,List.getElem?_cons_zero,List.getElem?_cons_succ] at ha3' hb3';go_wp2;go_loopg [51] es.length (fun gg v51 wr=>∃(i:Nat) (fs ds:List Int),i≤es.length∧es.length-i≤gg∧v51=.int .i64 (i:Int)∧z0_ (i=fs.length∧sf_e es (es.length-i) fs ds=some ee)∧z0_ (Below w.heap.size w wr)∧z0_ (wr.heap[w.heap.size]?=some (.cells #[.string nm,.int .i64 sa,.slice A2 ps.length c2,.slice A3 es.length c3,.slice A4 as_.length c4] 39 (0,0)))∧z0_ (Trees wr wq.heap.size w.heap.size fs ds)∧z0_ (wq.heap.size<wr.heap.size))
  case atStart=>exact ⟨0,[],[],Nat.zero_le _,Nat.le_refl _,rfl,⟨rfl,HE.out⟩,⟨z3_ HB2.out _⟩,⟨z5_ BK2.out _⟩,⟨_,_,wh_ wq _,own_nil _ _ _ _,own_nil _ _ _ _,ne_nil _⟩,⟨by simp⟩⟩
  obtain ⟨i,fs,ds,hi,hgg,rfl,HE2,HB4,BK4,TR4,SZ4⟩:=hrel;have hb0:=(z1_ BK4.out 3).trans rfl;simp only [List.getElem?_toArray,List.getElem?_cons_zero,List.getElem?_cons_succ] at hb0;by_cases hlt:i<es.length
  ·have hz:(i:Int)<(es.length:Int):=by omega
   have hst:=sf_e_cons es es.length i hlt fs ds ee HE2.out.2;obtain ⟨⟨g5,fs5,ds5⟩,hg5,hst⟩:=Option.bind_eq_some_iff.1 hst;have HG5:=a_ hg5;have HL5:=a_ (grow_len hg5);clear hg5;cases g5 with
   | false=>
    rw [if_neg (by simp)] at hst;have hpi:=Option.some.inj hst;have hrr:=HH2.out;rw [←hpi] at hrr;have hn1:¬((fs.length:Int)+1=-1):=by omega
    replace hrr:(if (fs.length:Int)+1=-1 then _ else some ((fs.length:Int)+1))=some r:=hrr
    rw [if_neg hn1] at hrr;have hr2:=Option.some.inj hrr;have HPI:z0_ ((i:Int)+1=r):=⟨by rw [HE2.out.1];exact hr2⟩
    clear hst hpi hrr hr2 hn1;go_wp2_with (go_at_call 151;refine (w4_.calls A3 c3 es wq.heap.size fs ds fs5 ds5 false w _ HB4.out HR3.out HC3.out TR4.out (Nat.le_of_succ_le HS0.out) HG5.out).mono ?_;rintro e w3 ⟨rfl,htr,hbw,hkt⟩;have HB5:=a_ hbw;clear htr hbw hkt);go_ret;exact ⟨by rw [←HPI.out,show wrap64 ((i:Int)+1)=(i:Int)+1 by unfold wrap64;have:=C3.out;omega];rfl,HB5.out⟩
   | true=>
    rw [if_pos rfl] at hst;have HST:z0_ (i+1=fs5.length∧sf_e es (es.length-(i+1)) fs5 ds5=some ee):=⟨by have:=HL5.out.1;have:=HE2.out.1;omega,hst⟩
    clear hst;go_wp2_with (go_at_call 151;refine (w4_.calls A3 c3 es wq.heap.size fs ds fs5 ds5 true w _ HB4.out HR3.out HC3.out TR4.out (Nat.le_of_succ_le HS0.out) HG5.out).mono ?_;rintro e w3 ⟨rfl,htr,hbw,hkt⟩;have HB5:=a_ hbw;have TR5:=a_ htr;have BK5:=a_ (hkt.2 _ _ _ (by decide) (by decide) BK4.out);have SZ5:=a_ (Nat.lt_of_lt_of_le SZ4.out hkt.1);clear htr hbw hkt);go_roundg (es.length-(i+1))
    case measure=>omega
    case rel=>exact ⟨i+1,fs5,ds5,by omega,by omega,by rw [show wrap64 ((i:Int)+1)=((i+1:Nat):Int) by unfold wrap64;have:=C3.out;omega],HST,HB5,BK5,TR5,SZ5⟩
  ·have hil:i=es.length:=by omega
   subst hil;have e0:=HE2.out.2;rw [Nat.sub_self] at e0;unfold sf_e at e0
   have e1:=Option.some.inj e0;subst e1;have h3:=HH2.out;rw [if_pos rfl] at h3;obtain ⟨aa,haa,h3⟩:=Option.bind_eq_some_iff.1 h3;have HA:z0_ (sf_a fs (as_.drop 0) 0 0=some aa):=⟨haa⟩
   have HH3:=a_ h3;clear haa h3 e0 HE2 HH2 HE;obtain ⟨wp,hwp⟩:∃x,x=wr:=⟨_,rfl⟩;subst hwp;have htr:=TR4.out;obtain ⟨vF,vD,hbt,hoF,hoD,hne⟩:=htr;obtain ⟨AF,cF,eF⟩:=own_slice hoF;subst eF;have hs1:w.heap.size+1≤wp.heap.size:=lt_of_block BK4.out
   have HS1:=a_ hs1;have HBT:=a_ (z5_ hbt (.cells #[.int .i64 0] 3));have HOF:=a_ (own_alloc hoF (.cells #[.int .i64 0] 3));have HNE:z0_ (some wp.heap.size≠(Value.slice AF fs.length cF).ownBlock):=⟨fun e=>by have:=own_lt hoF _ e.symm;omega⟩
   clear hbt hoF hoD hne hs1;have hb4:=(z1_ BK4.out 4).trans rfl;have hb5:=(z1_ (z5_ BK4.out (.cells #[.int .i64 0] 3)) 4).trans rfl;simp only [List.getElem?_toArray,List.getElem?_cons_zero,List.getElem?_cons_succ] at hb4 hb5;go_wp2;go_loopg [65] as_.length (fun gg v65 wr=>∃(i:Nat) (m:Int),i≤as_.length∧as_.length-i≤gg∧v65=.int .i64 (i:Int)∧z0_ (sf_a fs (as_.drop i) i m=some aa)∧z0_ (wr.heap[wp.heap.size]?=some (.cells #[.int .i64 m] 3 (0,0)))∧z0_ ((wp.alloc (.cells #[.int .i64 0] 3)).grownBy wr (some wp.heap.size)))
   case atStart=>exact ⟨0,0,Nat.zero_le _,Nat.le_refl _,rfl,HA,⟨wh_ wp _⟩,⟨World.grownBy.refl _ _⟩⟩
   obtain ⟨i,m,hi,hgg,rfl,HA2,BN6,HG6⟩:=hrel;have HB6:z0_ (Below w.heap.size w wr):=⟨(z3_ HB4.out _).grown HG6.out (by have:=HS1.out;simp;omega) (by intro q e;injection e with e;have:=HS1.out;omega)⟩
   have BK6:=a_ (zk_ (z5_ BK4.out _) HG6.out (by intro e;injection e with e;have:=HS1.out;omega));have BT6:=a_ (zk_ HBT.out HG6.out (by intro e;injection e with e;have:=SZ4.out;omega));have OF6:=a_ (own_other HOF.out HG6.out (Or.inr (fun e=>HNE.out e.symm)));have hd0:=(z1_ BK6.out 0).trans rfl;have hd1:=(z1_ BK6.out 1).trans rfl;have hd2:=(z1_ BK6.out 2).trans rfl;have hd3:=(z1_ BK6.out 3).trans rfl;have hd4:=(z1_ BK6.out 4).trans rfl;simp only [List.getElem?_toArray,List.getElem?_cons_zero,List.getElem?_cons_succ] at hd0 hd1 hd2 hd3 hd4;have hn6:=cell_of_one BN6.out;have hs6:w.heap.size+1≤wr.heap.size:=lt_of_block BK6.out
   have hs7:wp.heap.size+1≤wr.heap.size:=lt_of_block BN6.out
   by_cases hlt:i<as_.length
   ·have hz:(i:Int)<(as_.length:Int):=by omega
    have hz0:(0:Int)≤(i:Int):=by omega
    obtain ⟨ad,A7,c7,e0,hx0,hx1,hx2,hx3,hl7,hC7⟩:=at_T98 HR4.out (i:Int) hz0 hz;cases e0;replace hx0:=(HB6.out.cell (World.block_lt_of_cell? w _ hx0)).trans hx0;replace hx1:=(HB6.out.cell (World.block_lt_of_cell? w _ hx1)).trans hx1;replace hx2:=(HB6.out.cell (World.block_lt_of_cell? w _ hx2)).trans hx2;replace hx3:=(HB6.out.cell (World.block_lt_of_cell? w _ hx3)).trans hx3;simp only [Int.toNat_natCast] at hx0 hx1 hx2 hx3;have HC7:=a_ hC7;have hst:=sf_a_cons fs as_ i m hlt aa HA2.out;clear hC7 hl7;generalize y3_ as_ (i:Int)=a7 at *;obtain ⟨⟨g7,m7⟩,hg7,hst⟩:=Option.bind_eq_some_iff.1 hst;have HG7:=a_ hg7;clear hg7;cases g7 with
    | false=>
     rw [if_neg (by simp)] at hst;have hpi:=Option.some.inj hst;have hrr:=HH3.out;rw [←hpi] at hrr;have hn1:¬((i:Int)+1=-1):=by omega
     replace hrr:(if (i:Int)+1=-1 then _ else some ((i:Int)+1))=some r:=hrr
     rw [if_neg hn1] at hrr;have hr2:=Option.some.inj hrr;have HPI:z0_ ((i:Int)+1=r):=⟨hr2⟩
     clear hst hpi hrr hr2 hn1;go_wp2_with (go_at_call 152;refine (y0_.calls a7.f0 a7.f1 a7.f2 A7 c7 a7.f3 wq.heap.size w.heap.size AF cF vD fs wp.heap.size m m7 false w _ (z3_ HB6.out _) HC7.out (z5_ BT6.out _) (own_alloc OF6.out _) HNE.out (z5_ BN6.out _) (Nat.le_of_succ_le HS1.out) HG7.out).mono ?_;rintro e w7 ⟨rfl,hbn,hgr,hsz⟩;have HB8:z0_ (Below w.heap.size w w7):=⟨(z3_ HB6.out _).grown hgr (by simp;omega) (by intro q e;injection e with e;have:=HS1.out;omega)⟩;clear hbn hgr hsz);go_ret;exact ⟨by rw [←HPI.out,show wrap64 ((i:Int)+1)=(i:Int)+1 by unfold wrap64;have:=C2.out;omega];rfl,HB8.out⟩
    | true=>
     rw [if_pos rfl] at hst;have HST:=a_ hst;clear hst;go_wp2_with (go_at_call 152;refine (y0_.calls a7.f0 a7.f1 a7.f2 A7 c7 a7.f3 wq.heap.size w.heap.size AF cF vD fs wp.heap.size m m7 true w _ (z3_ HB6.out _) HC7.out (z5_ BT6.out _) (own_alloc OF6.out _) HNE.out (z5_ BN6.out _) (Nat.le_of_succ_le HS1.out) HG7.out).mono ?_;rintro e w7 ⟨rfl,hbn,hgr,hsz⟩;have BN8:=a_ hbn;have HG8:=a_ ((HG6.out.trans (World.grownBy_alloc _ _ _)).trans hgr);clear hbn hgr hsz);go_roundg (as_.length-(i+1))
     case measure=>omega
     case rel=>exact ⟨i+1,m7,by omega,by omega,by rw [show wrap64 ((i:Int)+1)=((i+1:Nat):Int) by unfold wrap64;have:=C2.out;omega],HST,BN8,HG8⟩
   ·have hil:i=as_.length:=by omega
    subst hil;have e0:=HA2.out;rw [List.drop_length] at e0;unfold sf_a at e0
    have e1:=Option.some.inj e0;subst e1;have h4:=HH3.out;rw [if_pos rfl] at h4;clear e0 HA2 HH3 HA;by_cases d1:m=(es.length:Int)
    ·subst d1;rw [if_pos rfl] at h4;cases h4;go_wp2;go_ret;exact ⟨rfl,HB6.out⟩
    ·rw [if_neg d1] at h4;have h5:=Option.some.inj h4;subst h5;have q7:(m==(es.length:Int))=false:=by simpa using d1
     have q8:(m != (es.length:Int))=true:=by simpa using d1
     clear d1 h4;go_wp2;go_ret;exact ⟨by rw [show wrap64 ((as_.length:Int)+1)=(as_.length:Int)+1 by unfold wrap64;have:=C2.out;omega];rfl,HB6.out⟩
theorem xq_.calls (a0_0:ByteArray) (a0_1:Int) (A0_2:Option Addr) (c0_2:Nat) (l0_2:List S42) (A0_3:Option Addr) (c0_3:Nat) (l0_3:List S161) (A0_4:Option Addr) (c0_4:Nat) (l0_4:List S98) (r:Int) (w:World) (hr0_2:Kd.C k42 w A0_2 l0_2.length l0_2) (hc0_2:l0_2.length≤c0_2) (hr0_3:Kd.C k161 w A0_3 l0_3.length l0_3) (hc0_3:l0_3.length≤c0_3) (hr0_4:Kd.C k98 w A0_4 l0_4.length l0_4) (hc0_4:l0_4.length≤c0_4) (h:xq_.f a0_0 a0_1 l0_2 l0_3 l0_4=some r):
  Calls Tryz.prog 109 #[.agg #[.string a0_0,.int .i64 a0_1,.slice A0_2 l0_2.length c0_2,.slice A0_3 l0_3.length c0_3,.slice A0_4 l0_4.length c0_4]] w fun e w'=>e=.returned (.int .i64 r)∧Below w.heap.size w w':=
 xq_.walk a0_0 a0_1 A0_2 c0_2 l0_2 A0_3 c0_3 l0_3 A0_4 c0_4 l0_4 r w hr0_2 hr0_3 hc0_3 hr0_4 h
end Go.Proofs.YtahambloheoebaaGreatDoor.P
namespace Go.Proofs.YtahambloheoebaaGreatDoorX
open Go Go.RowKit Go.Maps Go.ChangeMaps Go.WideMaps
theorem lawS:Keyed Tryz.prog 9:=string_keyed Tryz.underlying9
theorem data_ne {s t:ByteArray} (h:s≠t):(Lit.string s.data.toList)≠.string t.data.toList:=by
 intro e;injection e with e
 apply h
 cases s with|mk a=>
 cases t with|mk b=>
 have:a=b:=Array.toList_inj.1 e
 rw [this]
def memS (s:ByteArray):List ByteArray→Bool
 | []=>false
 | u::r=>(u.toList==s.toList) || memS s r
theorem ba_same {a b:ByteArray}:(a.toList==b.toList)=true↔a=b:=by
 rw [beq_iff_eq];constructor
 ·intro h;rw [ByteArray.toList_eq,ByteArray.toList_eq] at h;cases a with|mk x=>
  cases b with|mk y=>
  exact congrArg ByteArray.mk (Array.toList_inj.1 h)
 ·intro h;rw [h]
def SetS (w:World) (b n:Nat) (ss:List ByteArray):Prop:=
 ∃D:DataW Unit,w.ownsMap Tryz.prog 9 unitElem b n D∧IsMap D∧∀s:ByteArray,has D (.string s.data.toList)=memS s ss
theorem SetS_made (w:World):SetS (w.alloc (.map #[] 0)) w.heap.size 0 []:=
 ⟨.map [],World.ownsMap_made w _ _ _,isMap_empty,fun _=>rfl⟩
theorem SetS.kept {w w':World} {b n:Nat} {ss:List ByteArray} {row:Option Nat} (h:SetS w b n ss) (hg:w.grownBy w' row) (hne:some b≠row):SetS w' b n ss:=by
 obtain ⟨D,h1,h2,h3⟩:=h;exact ⟨D,h1.kept hg hne,h2,h3⟩
theorem SetS.alloc {w:World} {b n:Nat} {ss:List ByteArray} (h:SetS w b n ss) (o:Obj):SetS (w.alloc o) b n ss:=by
 obtain ⟨D,h1,h2,h3⟩:=h;exact ⟨D,h1.alloc o,h2,h3⟩
theorem SetS.lt {w:World} {b n:Nat} {ss:List ByteArray} (h:SetS w b n ss):b<w.heap.size:=by
 obtain ⟨D,h1,_⟩:=h;exact h1.lt
theorem wpList_hasS {w:World} {ops:Array Oper} {rest:List Oper} {o:Oper} {a:Act} {Q:Exit→Act→World→Prop} (hg:o.guard=none) (m x:Operand) (t eT:TypeId) (hz:∀w,(zeroValue eT).run Tryz.prog w=.ok (.agg #[]) w) (ht:Tryz.prog.underlying t=some (.map 9 eT))
  (hop:o.op=Op.lookup t m x true) (b n:Nat) (ss:List ByteArray) (h:SetS w b n ss) (hm:a.eval m=.map (some b)) (s:ByteArray) (hs:s.size≤maxLen) (hx:a.eval x=.string s)
  (hK:wpList Tryz.prog ops Q rest (a.put o.dst (.tuple #[.agg #[],.bool (memS s ss)])) w):
  wpList Tryz.prog ops Q (o::rest) a w:=by
 obtain ⟨D,h1,h2,h3⟩:=h;refine wpList_lookup_own_unit w hg m x t hop _ _ lawS ht (hz _) b n D hm h1 _ _ hx (keyOf_string_mk Tryz.underlying9 hs) ?_;rw [h3 s];exact hK
theorem wpList_addS {w:World} {ops:Array Oper} {rest:List Oper} {o:Oper} {a:Act} {Q:Exit→Act→World→Prop} (hg:o.guard=none) (m x v:Operand) (t eT:TypeId) (ht:Tryz.prog.underlying t=some (.map 9 eT))
  (hop:o.op=Op.mapUpdate t m x v) (b n:Nat) (ss:List ByteArray) (h:SetS w b n ss) (hn:n<maxLen) (hm:a.eval m=.map (some b)) (s:ByteArray) (hs:s.size≤maxLen) (hx:a.eval x=.string s) (hv:a.eval v=.agg #[])
  (hK:∀w',SetS w' b (n+1) (s::ss)→w.grownBy w' (some b)→wpList Tryz.prog ops Q rest (a.put o.dst undef) w'):
  wpList Tryz.prog ops Q (o::rest) a w:=by
 obtain ⟨D,h1,h2,h3⟩:=h;refine wpList_mapUpdate_in w hg m x v t hop _ _ lawS ht unitElem b n D hm h1 hn _ _ _ hx hv (keyOf_string_mk Tryz.underlying9 hs) _ [] unitElem_mk ?_;intro w' h4 h5;refine hK w' ⟨_,h4,?_,fun u=>?_⟩ h5.grown
 ·obtain ⟨es,rfl⟩:=h2;exact ⟨_,rfl⟩
 ·by_cases e:s=u
  ·subst e;rw [has_put_same h2 (by trivial),memS,ba_same.2 rfl];rfl
  ·rw [has_put_other (data_ne (Ne.symm e)),h3 u,memS,Bool.eq_false_iff.2 (fun h=>e (ba_same.1 h))];rfl
end Go.Proofs.YtahambloheoebaaGreatDoorX
namespace Go.Proofs.YtahambloheoebaaGreatDoor.P
open Go.Proofs.YtahambloheoebaaGreatDoorX
open Go.RowKit Go.Proofs.YtahambloheoebaaGreatDoorW.PrintWords Go.Proofs.YtahambloheoebaaGreatDoorW.PrintLast Go.Proofs.YtahambloheoebaaGreatDoorW.PrintMore
attribute [local go_sem] ww_ wx_ max_two min_two wc_ wb_ wu_ wv_
open Go.Maps Go.ChangeMaps Go.WideMaps Go.Proofs.YtahambloheoebaaGreatDoorX
theorem zeroU_ (w:World):(zeroValue 172).run Tryz.prog w=.ok (.agg #[]) w:=by kernel_rfl
set_option maxHeartbeats 4000000 in
set_option maxRecDepth 100000 in
theorem impl_nameSet_has.calls (b n:Nat) (ss:List ByteArray) (s:ByteArray) (w:World) (h:SetS w b n ss) (hs:s.size≤maxLen):
  Calls Tryz.prog 110 #[.map (some b),.string s] w fun e w'=>e=.returned (.bool (memS s ss))∧Below w.heap.size w w':=by
 have HB:=a_ (Below.refl w.heap.size w);have HS:=a_ h;have HL:=a_ hs;have hu:=Tryz.underlying172;clear h hs;go_enter Tryz.func110,Tryz.ntmps110;go_wp2_with (at_lookup;refine wpList_hasS rfl _ _ 171 172 zeroU_ Tryz.underlying171 rfl b n ss HS.out rfl s HL.out rfl ?_);go_ret;exact ⟨rfl,by repeat (first|exact HB.out|apply z3_)⟩
end Go.Proofs.YtahambloheoebaaGreatDoor.P
namespace Go.Proofs.YtahambloheoebaaGreatDoor.P
open Go.Proofs.YtahambloheoebaaGreatDoorX
open Go.RowKit Go.Proofs.YtahambloheoebaaGreatDoorW.PrintWords Go.Proofs.YtahambloheoebaaGreatDoorW.PrintLast Go.Proofs.YtahambloheoebaaGreatDoorW.PrintMore
attribute [local go_sem] ww_ wx_ max_two min_two wc_ wb_ wu_ wv_
def zm_.l0:Nat→Int→List (S42)→Int→Int→Option (Int)
 | 0,_,_,_,_=>none
 | k+1,x3,x7,x8,x9=>if x9<x8 then (if 0≤x9 then (if x9<(x7.length:Int) then (if ((zq_ x7 x9).f0=true) then (zm_.l0 k x3 x7 x8 (wrap64 (x9+1))) else (zm_.l0 k (wrap64 (x3+1)) x7 x8 (wrap64 (x9+1)))) else (none)) else (none)) else (some x3)
def zm_.f (k:Nat) (a0_0:ByteArray) (a0_1:Int) (l0_2:List (S42)) (l0_3:List (S161)) (l0_4:List (S98)):Option (Int):=zm_.l0 k 0 l0_2 (l0_2.length:Int) 0
theorem zm_.y6_:∀k,(∀y0 y1 y2 y3,LeO (zm_.l0 k y0 y1 y2 y3) (zm_.l0 (k+1) y0 y1 y2 y3))
 | 0=>fun _ _ _ _ r h=>by simp [zm_.l0] at h
 | k+1=>by
  have ih0:=zm_.y6_ k
  ·intro y0 y1 y2 y3;unfold zm_.l0
   repeat' with_reducible first|apply ih0|apply LeO.refl|apply LeO.none|refine LeO.ite ?_ ?_|refine LeO.bind ?_ (fun _=>?_)
theorem zm_.mono:∀a0 a1 a2 a3 a4 k,LeO (zm_.f k a0 a1 a2 a3 a4) (zm_.f (k+1) a0 a1 a2 a3 a4):=by
 intro a0 a1 a2 a3 a4 k;have ih0:=zm_.y6_ k;unfold zm_.f
 repeat' with_reducible first|apply ih0|apply LeO.refl|apply LeO.none|refine LeO.ite ?_ ?_|refine LeO.bind ?_ (fun _=>?_)
set_option maxHeartbeats 8000000 in
set_option maxRecDepth 100000 in
theorem zm_.calls (k:Nat) (a0_0:ByteArray) (a0_1:Int) (A0_2:Option Addr) (c0_2:Nat) (l0_2:List (S42)) (A0_3:Option Addr) (c0_3:Nat) (l0_3:List (S161)) (A0_4:Option Addr) (c0_4:Nat) (l0_4:List (S98)) (r:Int) (w:World) (hr0_2:Kd.C k42 w A0_2 l0_2.length l0_2) (hc0_2:l0_2.length≤c0_2) (hr0_3:Kd.C k161 w A0_3 l0_3.length l0_3) (hc0_3:l0_3.length≤c0_3) (hr0_4:Kd.C k98 w A0_4 l0_4.length l0_4) (hc0_4:l0_4.length≤c0_4) (h:zm_.f k a0_0 a0_1 l0_2 l0_3 l0_4=some r):
  Calls Tryz.prog 111 #[.agg #[.string a0_0,.int .i64 a0_1,.slice A0_2 l0_2.length c0_2,.slice A0_3 l0_3.length c0_3,.slice A0_4 l0_4.length c0_4]] w fun e w'=>e=.returned (.int .i64 r)∧Below w.heap.size w w':=by
 have hu39:=Tryz.underlying39;have hu42:=Tryz.underlying42;have HR0_2:=a_ hr0_2;have HC0_2:=a_ hc0_2;clear hr0_2 hc0_2;have HR0_3:=a_ hr0_3;have HC0_3:=a_ hc0_3;clear hr0_3 hc0_3;have HR0_4:=a_ hr0_4;have HC0_4:=a_ hc0_4;clear hr0_4 hc0_4;have HB:=a_ (Below.refl w.heap.size w);have H:(zm_.l0 k 0 l0_2 (l0_2.length:Int) 0)=some r:=h
 clear h;have H':=a_ H;clear H;go_enter Tryz.func111,Tryz.ntmps111;go_wp2_with (first|((with_reducible refine zl_ (N:=1) rfl ?_);refine bh_ 1 #[.string a0_0,.int .i64 a0_1,.slice A0_2 l0_2.length c0_2,.slice A0_3 l0_3.length c0_3,.slice A0_4 l0_4.length c0_4] 39 HB ?_;intro gb104 hg wx BK104 GE104 hb;replace HB:=ms_ HB hb;clear hb hg;replace hz104:=cz5 BK104));go_loopg [3,9] k (fun kq v3 v9 w'=>∃(x3_1:Int) (x9_1:Int),v3=.int .i64 x3_1∧v9=.int .i64 x9_1∧z0_ (zm_.l0 kq x3_1 l0_2 (l0_2.length:Int) x9_1=some r)∧z0_ (kq≤k)∧z0_ (w'.heap[gb104]?=some (.cells #[.string a0_0,.int .i64 a0_1,(.slice A0_2 l0_2.length c0_2),(.slice A0_3 l0_3.length c0_3),(.slice A0_4 l0_4.length c0_4)] 39 (0,0)))∧z0_ (Below w.heap.size w w'))
 case atStart=>exact ⟨(0),(0),mq_,mq_,H',⟨Nat.le_refl _⟩,⟨mc_ BK104⟩,⟨mb_ HB⟩⟩
 clear H';(try clear hz104);obtain ⟨x3_1,x9_1,rfl,rfl,HA,HK1,BK104,HB⟩:=hrel;obtain _|k1:=gk
 ·exact absurd HA.out (by simp [zm_.l0])
 have H:=HA.out;clear HA;simp only [zm_.l0] at H;by_cases c4:x9_1<(l0_2.length:Int)
 ·rw [if_pos c4] at H;have c4b0:=ct_ c4;clear c4;by_cases c5:0≤x9_1
  case neg=>
   rw [if_neg c5] at H;cases H
  rw [if_pos c5] at H;have c5b0:=ct_ c5;clear c5;by_cases c6:x9_1<(l0_2.length:Int)
  case neg=>
   rw [if_neg c6] at H;cases H
  rw [if_pos c6] at H;have c6b0:=ct_ c6;clear c6;obtain ⟨bq7,hbq7⟩:∃b_:Bool,b_=((zq_ l0_2 x9_1).f0):=⟨_,rfl⟩;replace H:(if (bq7=true) then (zm_.l0 k1 x3_1 l0_2 (l0_2.length:Int) (wrap64 (x9_1+1))) else (zm_.l0 k1 (wrap64 (x3_1+1)) l0_2 (l0_2.length:Int) (wrap64 (x9_1+1))))=some r:=by rw [←hbq7] at H;exact H
  have Nbq7:=a_ hbq7;clear hbq7;by_cases c8:(bq7=true)
  ·subst c8;rw [if_pos rfl] at H;have H':=a_ H;clear H;have p105:0≤(x9_1:Int):=md_
   have q105:x9_1<(l0_2.length:Int):=md_
   obtain ⟨ad105,A105_2,c105_2,e105,hx105_0,hx105_1,hx105_2,hl105_2,hi105_2⟩:=at_T42 HR0_2.out x9_1 p105 q105;(try rw [←Nbq7.out] at hx105_0);cases e105;replace hx105_0:=mx_ HB hx105_0;replace hx105_1:=mx_ HB hx105_1;replace hx105_2:=mx_ HB hx105_2;have HR105_2:=a_ hi105_2;have HC105_2:=a_ hl105_2;clear hi105_2 hl105_2;replace p105:=eq_true p105;replace q105:=eq_true q105;go_wp2_with (first|((with_reducible refine zl_ (N:=5) rfl ?_);refine bh_ 5 #[.bool false,.string (⟨#[]⟩:ByteArray),.slice none 0 0] 42 HB ?_;intro gb106 hg wx BK106 GE106 hb;obtain ⟨NB104_106,NB106_104⟩:=mn_ BK104 hg;replace BK104:=mk_ BK104 hb;replace HB:=ms_ HB hb;clear hb hg;have nNB106_104:=NB106_104.out;have nNB104_106:=NB104_106.out;replace hz106:=cz3 BK106));go_roundg k1
   case measure=>
    have:=HK1.out
    omega
   case rel=>exact ⟨(x3_1),(wrap64 (x9_1+1)),mq_,mq_,H',⟨by have:=HK1.out;omega⟩,⟨mc_ BK104⟩,⟨mb_ HB⟩⟩
  ·replace c8:=Bool.eq_false_iff.mpr c8;subst c8;rw [if_neg (show ¬(false=true) by decide)] at H;have H':=a_ H;clear H;have p105:0≤(x9_1:Int):=md_
   have q105:x9_1<(l0_2.length:Int):=md_
   obtain ⟨ad105,A105_2,c105_2,e105,hx105_0,hx105_1,hx105_2,hl105_2,hi105_2⟩:=at_T42 HR0_2.out x9_1 p105 q105;(try rw [←Nbq7.out] at hx105_0);cases e105;replace hx105_0:=mx_ HB hx105_0;replace hx105_1:=mx_ HB hx105_1;replace hx105_2:=mx_ HB hx105_2;have HR105_2:=a_ hi105_2;have HC105_2:=a_ hl105_2;clear hi105_2 hl105_2;replace p105:=eq_true p105;replace q105:=eq_true q105;go_wp2_with (first|((with_reducible refine zl_ (N:=5) rfl ?_);refine bh_ 5 #[.bool false,.string (⟨#[]⟩:ByteArray),.slice none 0 0] 42 HB ?_;intro gb106 hg wx BK106 GE106 hb;obtain ⟨NB104_106,NB106_104⟩:=mn_ BK104 hg;replace BK104:=mk_ BK104 hb;replace HB:=ms_ HB hb;clear hb hg;have nNB106_104:=NB106_104.out;have nNB104_106:=NB104_106.out;replace hz106:=cz3 BK106));go_roundg k1
   case measure=>
    have:=HK1.out
    omega
   case rel=>exact ⟨(wrap64 (x3_1+1)),(wrap64 (x9_1+1)),mq_,mq_,H',⟨by have:=HK1.out;omega⟩,⟨mc_ BK104⟩,⟨mb_ HB⟩⟩
 ·rw [if_neg c4] at H;have c4b0:=cf_ c4;clear c4;obtain rfl:=oi_ H;go_wp2;go_ret;exact ⟨me_,mb_ HB⟩
end Go.Proofs.YtahambloheoebaaGreatDoor.P
namespace Go.Proofs.YtahambloheoebaaGreatDoorX
open Go Go.RowKit Go.Maps Go.ChangeMaps Go.WideMaps
theorem SetS.mono {w:World} {b n n':Nat} {ss:List ByteArray} (h:SetS w b n ss) (hn:n≤n'):SetS w b n' ss:=by
 obtain ⟨D,h1,h2,h3⟩:=h;exact ⟨D,h1.mono hn,h2,h3⟩
theorem SetS.ext {w:World} {b n:Nat} {ss ss':List ByteArray} (h:SetS w b n ss) (he:∀s,memS s ss=memS s ss'):SetS w b n ss':=by
 obtain ⟨D,h1,h2,h3⟩:=h;exact ⟨D,h1,h2,fun s=>(h3 s).trans (he s)⟩
theorem memS_append (s:ByteArray):∀a b:List ByteArray,memS s (a++b)=(memS s a || memS s b)
 | [],b=>by simp [memS]
 | x::a,b=>by simp [memS,memS_append s a b,Bool.or_assoc]
theorem memS_cons_self (s:ByteArray) (ss:List ByteArray):memS s (s::ss)=true:=by simp [memS]
theorem memS_cons_ne {s t:ByteArray} (h:t≠s) (ss:List ByteArray):memS s (t::ss)=memS s ss:=by
 simp only [memS];rw [Bool.eq_false_iff.2 (fun e=>h (ba_same.1 e)),Bool.false_or]
theorem has_of_at {D:DataW Unit} {kl:Lit} {d:DataW Unit} (hm:IsMap D) (h:∀zd,D.atKey kl zd=d):has D kl=true:=by
 obtain ⟨es,rfl⟩:=hm;rw [has_eq];have h1:=h (.lit (.bool true));have h2:=h (.lit (.bool false));simp only [DataW.atKey] at h1 h2;cases hf:es.find? (fun p=>p.1.sameKey kl) with
 | none=>rw [hf] at h1 h2;rw [←h2] at h1;cases h1
 | some p=>exact List.any_eq_true.2 ⟨p,List.mem_of_find?_eq_some hf,by have:=List.find?_some hf;simpa using this⟩
theorem string_key_inv {key:Value} {kl:Lit} (h:keyOf Tryz.prog 9 key=some kl):∃s:ByteArray,key=.string s∧s.size≤maxLen∧kl=.string s.data.toList:=by
 cases key<;>simp [keyOf,Tryz.underlying9,mapKey] at h
 exact ⟨_,rfl,h.1,h.2.symm⟩
theorem same_self (l:List UInt8):(Lit.string l).sameKey (.string l)=true:=by simp [Lit.sameKey]
def URel (w:World) (bL r nL:Nat) (L:List ByteArray) (bK nK:Nat) (K:List ByteArray) (cnt:Nat):Prop:=
 ∃(D:DataW Unit) (left:Lit→Bool) (ss:List ByteArray),IsMap D∧(∀s:ByteArray,has D (.string s.data.toList)=memS s L)∧w.ranges Tryz.prog 9 unitElem bL r nL D left cnt∧cnt≤nL∧SetS w bK (nK+(nL-cnt)) ss∧
  ∀s:ByteArray,memS s ss=(memS s K || (memS s L && !left (.string s.data.toList)))
def UMid (w:World) (bL r nL:Nat) (L:List ByteArray) (bK nK:Nat) (K:List ByteArray) (cnt:Nat) (x:ByteArray):Prop:=
 ∃(D:DataW Unit) (left:Lit→Bool) (ss:List ByteArray),IsMap D∧(∀s:ByteArray,has D (.string s.data.toList)=memS s L)∧w.ranges Tryz.prog 9 unitElem bL r nL D left cnt∧cnt<nL∧SetS w bK (nK+(nL-cnt-1)) ss∧
  ∀s:ByteArray,memS s (x::ss)=(memS s K || (memS s L && !left (.string s.data.toList)))
theorem ranges_ne_set {w:World} {bL r nL n:Nat} {D:DataW Unit} {left:Lit→Bool} {cnt bK:Nat} {ss:List ByteArray} (h:w.ranges Tryz.prog 9 unitElem bL r nL D left cnt) (k:SetS w bK n ss):bK≠r:=by
 obtain ⟨es,clock,since,seen,c0,_,_,_,_,hr,_⟩:=h;obtain ⟨D',⟨es',clock',hb,_⟩,_⟩:=k;intro e;subst e;rw [hr] at hb;cases hb
section
variable {w:World} {ops:Array Oper} {rest:List Oper} {o:Oper} {a:Act} {Q:Exit→Act→World→Prop}
theorem wpList_rangeU (hg:o.guard=none) (m:Operand) (t eT:TypeId) (ht:Tryz.prog.underlying t=some (.map 9 eT)) (hop:o.op=Op.range t m) (bL nL:Nat) (L:List ByteArray) (hL:SetS w bL nL L) (bK nK:Nat) (K:List ByteArray) (hK:SetS w bK nK K)
  (hm:a.eval m=.map (some bL))
  (h:∀w' cnt,URel w' bL w.heap.size nL L bK nK K cnt→w.grownBy w' none→w'.heap.size=w.heap.size+1→wpList Tryz.prog ops Q rest (a.put o.dst (.pointer (some ⟨w.heap.size,0,none⟩))) w'):
  wpList Tryz.prog ops Q (o::rest) a w:=by
 obtain ⟨D,h1,h2,h3⟩:=hL;refine wpList_range_own w hg m t hop _ eT lawS ht unitElem bL nL D hm h1 ?_;intro w' hr hgr hs;exact h w' (Maps.size D) ⟨D,has D,K,h2,h3,hr,h1.size_le,(hK.kept hgr (by simp)).mono (by omega),fun s=>by rw [h3 s];cases memS s K<;>cases memS s L<;>rfl⟩ hgr hs
theorem wpList_nextU (hg:o.guard=none) (it:Operand) (hop:o.op=Op.next it false) (bL r nL:Nat) (L:List ByteArray) (bK nK:Nat) (K:List ByteArray) (cnt:Nat) (hit:a.eval it=.pointer (some ⟨r,0,none⟩)) (hU:URel w bL r nL L bK nK K cnt)
  (hDone:SetS w bK (nK+nL) (L++K)→wpList Tryz.prog ops Q rest (a.put o.dst (.tuple #[.bool false])) w)
  (hMore:∀(x:ByteArray) (w':World) (cnt':Nat),x.size≤maxLen→cnt'<cnt→UMid w' bL r nL L bK nK K cnt' x→w.grownBy w' (some r)→w'.heap.size=w.heap.size→(Instr.entry (.pointer (some ⟨r,0,none⟩))).run Tryz.prog w'=.ok (.tuple #[.string x,.agg #[]]) w'→
   wpList Tryz.prog ops Q rest (a.put o.dst (.tuple #[.bool true,.string x,.agg #[]])) w'):
  wpList Tryz.prog ops Q (o::rest) a w:=by
 obtain ⟨D,left,ss,hm,hL,hr,hc,hS,hss⟩:=hU;refine wpList_next_ranges w hg it hop _ lawS unitElem Value.string (fun _:Unit=>.agg #[]) (fun key kl hk=>by obtain ⟨s,e,_⟩:=string_key_inv hk;exact ⟨s,e⟩) (fun v y hv=>⟨(),(unitElem_inv hv).1⟩) bL r nL D left cnt hit hr ?_ ?_
 ·intro h0 hl;refine hDone ((hS.mono (by omega)).ext fun s=>?_);rw [hss s,hl,memS_append];cases memS s K<;>cases memS s L<;>rfl
 ·intro x c kl y w' cnt' hkey hlk _ hat hrg hlt hgr hsz hen;obtain ⟨s',e1,e2,e3⟩:=string_key_inv hkey;cases e1;subst e3;have hx:memS x L=true:=by rw [←hL x];exact has_of_at hm hat
  refine hMore x w' cnt' e2 hlt ⟨D,_,ss,hm,hL,hrg,by omega,(hS.kept hgr (fun e=>ranges_ne_set hr hS (by injection e))).mono (by omega),fun s=>?_⟩ hgr hsz hen;by_cases e:x=s
  ·subst e;rw [memS_cons_self,hx,same_self];simp
  ·rw [memS_cons_ne e,hss s,sameKey_ne (data_ne (Ne.symm e))];simp
theorem wpList_addU (hg:o.guard=none) (m x v:Operand) (t eT:TypeId) (ht:Tryz.prog.underlying t=some (.map 9 eT)) (hop:o.op=Op.mapUpdate t m x v) (bL r nL:Nat) (L:List ByteArray) (bK nK:Nat) (K:List ByteArray) (cnt:Nat) (s:ByteArray)
  (hU:UMid w bL r nL L bK nK K cnt s) (hne:bL≠bK) (hn:nK+nL<maxLen) (hm:a.eval m=.map (some bK)) (hs:s.size≤maxLen) (hx:a.eval x=.string s) (hv:a.eval v=.agg #[])
  (h:∀w',URel w' bL r nL L bK nK K cnt→w.grownBy w' (some bK)→wpList Tryz.prog ops Q rest (a.put o.dst undef) w'):
  wpList Tryz.prog ops Q (o::rest) a w:=by
 obtain ⟨D,left,ss,hmap,hL,hr,hc,hS,hss⟩:=hU;have hrK:bK≠r:=ranges_ne_set hr hS
 refine wpList_addS hg m x v t eT ht hop bK _ ss hS (Nat.lt_of_le_of_lt (Nat.add_le_add_left (Nat.le_trans (Nat.sub_le _ _) (Nat.sub_le _ _)) _) hn) hm s hs hx hv ?_;intro w' h1 h2;exact h w' ⟨D,left,s::ss,hmap,hL,hr.kept h2 (fun e=>hne (Option.some.inj e)) (fun e=>hrK (Option.some.inj e).symm),Nat.le_of_lt hc,h1.mono (Nat.le_of_eq (by clear hn hss h;omega)),hss⟩ h2
end
end Go.Proofs.YtahambloheoebaaGreatDoorX
namespace Go.Proofs.YtahambloheoebaaGreatDoor.P
open Go.Proofs.YtahambloheoebaaGreatDoorX
open Go.RowKit Go.Proofs.YtahambloheoebaaGreatDoorW.PrintWords Go.Proofs.YtahambloheoebaaGreatDoorW.PrintLast Go.Proofs.YtahambloheoebaaGreatDoorW.PrintMore
attribute [local go_sem] ww_ wx_ max_two min_two wc_ wb_ wu_ wv_
open Go.Proofs.YtahambloheoebaaGreatDoorX
def sc_t (K:List ByteArray):List S86→List ByteArray→Option (Bool×List ByteArray)
 | [],L=>some (true,L)
 | t::ts,L=>if t.f2.size≤maxLen then (if t.f0=3∧t.f2.toList.isEmpty=false∧memS t.f2 K=false∧memS t.f2 L=false then some (false,L) else if t.f0=2 then sc_t K ts (t.f2::L) else sc_t K ts L) else none
def sc_p:List S42→Nat→List ByteArray→Option (Int×List ByteArray)
 | [],_,K=>some (-1,K)
 | p::ps,i,K=>if p.f2.length≤6 then (sc_t K p.f2 []).bind fun y=>(if y.1=true then sc_p ps (i+1) (if p.f0=true then K else y.2++K) else some ((i:Int)+1,K)) else none
def sc_e (es:List S161) (K:List ByteArray):Nat→Int→Int→Option (Bool×Int)
 | 0,k,x=>if k≤x then none else some (true,k)
 | m+1,k,x=>if k≤x then (if 0≤k∧k<(es.length:Int)∧(z2_ es k).f2.size≤maxLen then (if (z2_ es k).f0=1∧memS (z2_ es k).f2 K=false then some (false,k) else sc_e es K m (k+1) x) else none) else some (true,k)
def sc_args (es:List S161) (K:List ByteArray):List Int→Int→Option (Bool×Int)
 | [],k=>some (true,k)
 | x::xs,k=>(sc_e es K es.length k x).bind fun y=>if y.1=true then sc_args es K xs y.2 else some (false,y.2)
def sc_acts (es:List S161) (K:List ByteArray) (lp:Nat):List S98→Nat→Int→Option Int
 | [],_,_=>some (-1)
 | a::as_,i,k=>(sc_args es K a.f3 k).bind fun y=>if y.1=true then sc_acts es K lp as_ (i+1) y.2 else some ((lp:Int)+(i:Int)+1)
def xc_.f (nm:ByteArray) (sa:Int) (ps:List S42) (es:List S161) (as_:List S98):Option Int:=
 if ps.length≤6∧es.length≤60∧as_.length≤8 then (sc_p ps 0 []).bind fun y=>if y.1=-1 then sc_acts es y.2 ps.length as_ 0 0 else some y.1 else none
theorem sc_t_cons (K:List ByteArray) (ts:List S86) (j:Nat) (h:j<ts.length) (L:List ByteArray) (y:Bool×List ByteArray) (hg:sc_t K (ts.drop j) L=some y):
  (z6_ ts (j:Int)).f2.size≤maxLen∧(if (z6_ ts (j:Int)).f0=3∧(z6_ ts (j:Int)).f2.toList.isEmpty=false∧memS (z6_ ts (j:Int)).f2 K=false∧memS (z6_ ts (j:Int)).f2 L=false then some (false,L) else if (z6_ ts (j:Int)).f0=2 then sc_t K (ts.drop (j+1)) ((z6_ ts (j:Int)).f2::L) else sc_t K (ts.drop (j+1)) L)=some y:=by
 have e:z6_ ts (j:Int)=ts[j]:=by
  unfold z6_
  simp [h]
 rw [List.drop_eq_getElem_cons h] at hg;unfold sc_t at hg
 rw [e];split at hg
 ·exact ⟨‹_›,hg⟩
 ·cases hg
theorem sc_p_cons (ps:List S42) (i:Nat) (h:i<ps.length) (K:List ByteArray) (y:Int×List ByteArray) (hg:sc_p (ps.drop i) i K=some y):
  (zq_ ps (i:Int)).f2.length≤6∧((sc_t K (zq_ ps (i:Int)).f2 []).bind fun y=>(if y.1=true then sc_p (ps.drop (i+1)) (i+1) (if (zq_ ps (i:Int)).f0=true then K else y.2++K) else some ((i:Int)+1,K)))=some y:=by
 have e:zq_ ps (i:Int)=ps[i]:=by
  unfold zq_
  simp [h]
 rw [List.drop_eq_getElem_cons h] at hg;unfold sc_p at hg
 rw [e];split at hg
 ·exact ⟨‹_›,hg⟩
 ·cases hg
theorem sc_args_cons (es:List S161) (K:List ByteArray) (xs:List Int) (j:Nat) (h:j<xs.length) (k:Int) (y:Bool×Int) (hg:sc_args es K (xs.drop j) k=some y):
  ((sc_e es K es.length k (rd xs (j:Int))).bind fun y=>if y.1=true then sc_args es K (xs.drop (j+1)) y.2 else some (false,y.2))=some y:=by
 have e:rd xs (j:Int)=xs[j]:=by
  unfold rd
  simp [h]
 rw [List.drop_eq_getElem_cons h] at hg;unfold sc_args at hg
 rw [e];exact hg
theorem sc_acts_cons (es:List S161) (K:List ByteArray) (lp:Nat) (as_:List S98) (i:Nat) (h:i<as_.length) (k:Int) (r:Int) (hg:sc_acts es K lp (as_.drop i) i k=some r):
  ((sc_args es K (y3_ as_ (i:Int)).f3 k).bind fun y=>if y.1=true then sc_acts es K lp (as_.drop (i+1)) (i+1) y.2 else some ((lp:Int)+(i:Int)+1))=some r:=by
 have e:y3_ as_ (i:Int)=as_[i]:=by
  unfold y3_
  simp [h]
 rw [List.drop_eq_getElem_cons h] at hg;unfold sc_acts at hg
 rw [e];exact hg
theorem lt_maxLen {n:Nat} (h:n≤1000):n<maxLen:=by unfold maxLen;omega
set_option maxHeartbeats 16000000 in
set_option maxRecDepth 100000 in
theorem xc_.walk (nm:ByteArray) (sa:Int) (A2:Option Addr) (c2:Nat) (ps:List S42) (A3:Option Addr) (c3:Nat) (es:List S161) (A4:Option Addr) (c4:Nat) (as_:List S98) (r:Int) (w:World) (hr2:Kd.C k42 w A2 ps.length ps) (hr3:Kd.C k161 w A3 es.length es) (hr4:Kd.C k98 w A4 as_.length as_) (h:xc_.f nm sa ps es as_=some r):
  Calls Tryz.prog 112 #[.agg #[.string nm,.int .i64 sa,.slice A2 ps.length c2,.slice A3 es.length c3,.slice A4 as_.length c4]] w fun e w'=>e=.returned (.int .i64 r)∧Below w.heap.size w w':=by
 have hu:=Tryz.underlying39;have hu2:=Tryz.underlying98;have hu3:=Tryz.underlying42;have hu4:=Tryz.underlying86;have hu5:=Tryz.underlying161;have HR2:=a_ hr2;have HR3:=a_ hr3;have HR4:=a_ hr4;clear hr2 hr3 hr4;unfold xc_.f at h
 by_cases c0:ps.length≤6∧es.length≤60∧as_.length≤8
 rotate_left
 ·rw [if_neg c0] at h;cases h
 rw [if_pos c0] at h;have C0:=a_ c0;clear c0;obtain ⟨y,hy,h⟩:=Option.bind_eq_some_iff.1 h;have HY:z0_ (sc_p (ps.drop 0) 0 []=some y):=⟨hy⟩
 have HH:=a_ h;clear hy h;have HB:=a_ (z3_ (z3_ (Below.refl w.heap.size w) (.cells #[.string nm,.int .i64 sa,.slice A2 ps.length c2,.slice A3 es.length c3,.slice A4 as_.length c4] 39)) (.map #[] 0));have BK:=a_ (z5_ (wh_ w (.cells #[.string nm,.int .i64 sa,.slice A2 ps.length c2,.slice A3 es.length c3,.slice A4 as_.length c4] 39)) (.map #[] 0));have SK:z0_ (SetS ((w.alloc (.cells #[.string nm,.int .i64 sa,.slice A2 ps.length c2,.slice A3 es.length c3,.slice A4 as_.length c4] 39)).alloc (.map #[] 0)) (w.heap.size+1) 0 []):=⟨by have:=SetS_made (w.alloc (.cells #[.string nm,.int .i64 sa,.slice A2 ps.length c2,.slice A3 es.length c3,.slice A4 as_.length c4] 39));rwa [show (w.alloc (.cells #[.string nm,.int .i64 sa,.slice A2 ps.length c2,.slice A3 es.length c3,.slice A4 as_.length c4] 39)).heap.size=w.heap.size+1 by simp] at this⟩
 have ha2:=(z1_ BK.out 2).trans rfl;simp only [List.getElem?_toArray,List.getElem?_cons_zero,List.getElem?_cons_succ] at ha2;have hmm:=@run_makeMap Tryz.prog;go_enter Tryz.func112,Tryz.ntmps112;go_wp2;go_loopg [20] ps.length (fun gg v20 wr=>∃(i nK:Nat) (K:List ByteArray),i≤ps.length∧ps.length-i≤gg∧v20=.int .i64 (i:Int)∧z0_ (nK≤6*i)∧z0_ (sc_p (ps.drop i) i K=some y)∧z0_ (Below w.heap.size w wr)∧z0_ (wr.heap[w.heap.size]?=some (.cells #[.string nm,.int .i64 sa,.slice A2 ps.length c2,.slice A3 es.length c3,.slice A4 as_.length c4] 39 (0,0)))∧z0_ (SetS wr (w.heap.size+1) nK K))
 case atStart=>exact ⟨0,0,[],Nat.zero_le _,Nat.le_refl _,rfl,⟨Nat.le_refl _⟩,HY,HB,BK,SK⟩
 clear SK BK HB ha2 HY;obtain ⟨i,nK,K,hi,hgg,rfl,HN,HY,HB,BK,SK⟩:=hrel;obtain ⟨wa,hwa⟩:∃x,x=wr:=⟨_,rfl⟩;subst hwa;by_cases hlt:i<ps.length
 ·have hz:(i:Int)<(ps.length:Int):=by omega
  have hz0:(0:Int)≤(i:Int):=by omega
  obtain ⟨ad,A5,c5,e0,hx0,hx1,hx2,hl5,hC5⟩:=at_T42 HR2.out (i:Int) hz0 hz;cases e0;replace hx0:=mx_ HB hx0;replace hx1:=mx_ HB hx1;replace hx2:=mx_ HB hx2;simp only [Int.toNat_natCast] at hx0 hx1 hx2;have HC5:=a_ hC5;have hst:=sc_p_cons ps i hlt K y HY.out;clear hC5 hl5;generalize zq_ ps (i:Int)=p5 at *;obtain ⟨hl6,hst⟩:=hst;have HL6:=a_ hl6;clear hl6;obtain ⟨yt,hyt,hst⟩:=Option.bind_eq_some_iff.1 hst;have HT:z0_ (sc_t K (p5.f2.drop 0) []=some yt):=⟨hyt⟩
  have HST:=a_ hst;clear hyt hst;have HS1:z0_ (w.heap.size+1<wa.heap.size):=⟨SK.out.lt⟩
  have BP:=a_ (z5_ (wh_ wa (.cells #[.bool p5.f0,.string p5.f1,.slice A5 p5.f2.length c5] 42)) (.map #[] 0));have SL:z0_ (SetS ((wa.alloc (.cells #[.bool p5.f0,.string p5.f1,.slice A5 p5.f2.length c5] 42)).alloc (.map #[] 0)) (wa.heap.size+1) 0 []):=⟨by have:=SetS_made (wa.alloc (.cells #[.bool p5.f0,.string p5.f1,.slice A5 p5.f2.length c5] 42));rwa [show (wa.alloc (.cells #[.bool p5.f0,.string p5.f1,.slice A5 p5.f2.length c5] 42)).heap.size=wa.heap.size+1 by simp] at this⟩
  have hp2:=(z1_ BP.out 2).trans rfl;simp only [List.getElem?_toArray,List.getElem?_cons_zero,List.getElem?_cons_succ] at hp2;go_wp2;go_loopg [29] p5.f2.length (fun gg v29 wr=>∃(j nL:Nat) (L:List ByteArray),j≤p5.f2.length∧p5.f2.length-j≤gg∧v29=.int .i64 (j:Int)∧z0_ (nL≤j)∧z0_ (sc_t K (p5.f2.drop j) L=some yt)∧z0_ (Below w.heap.size w wr)∧z0_ (wr.heap[w.heap.size]?=some (.cells #[.string nm,.int .i64 sa,.slice (some ad) ps.length c2,.slice A3 es.length c3,.slice A4 as_.length c4] 39 (0,0)))∧z0_ (wr.heap[wa.heap.size]?=some (.cells #[.bool p5.f0,.string p5.f1,.slice A5 p5.f2.length c5] 42 (0,0)))∧z0_ (SetS wr (w.heap.size+1) nK K)∧z0_ (SetS wr (wa.heap.size+1) nL L))
  case atStart=>exact ⟨0,0,[],Nat.zero_le _,Nat.le_refl _,rfl,⟨Nat.le_refl _⟩,HT,⟨z3_ (z3_ HB.out _) _⟩,⟨z5_ (z5_ BK.out _) _⟩,BP,⟨SetS.alloc (SetS.alloc SK.out _) _⟩,SL⟩
  clear SL BP HT hp2;obtain ⟨j,nL,L,hj,hggj,rfl,HNL,HT,HB4,BK4,BP4,SK4,SL4⟩:=hrel;by_cases hltj:j<p5.f2.length
  ·have hzj:(j:Int)<(p5.f2.length:Int):=by omega
   have hzj0:(0:Int)≤(j:Int):=by omega
   have HJ6:z0_ (j≤6):=⟨by have:=HL6.out;omega⟩
   obtain ⟨adt,e0,ht0,ht1,ht2,ht3,ht4,ht5⟩:=at_T86 HC5.out (j:Int) hzj0 hzj;cases e0;replace ht0:=(HB4.out.cell (World.block_lt_of_cell? w _ ht0)).trans ht0;replace ht1:=(HB4.out.cell (World.block_lt_of_cell? w _ ht1)).trans ht1;replace ht2:=(HB4.out.cell (World.block_lt_of_cell? w _ ht2)).trans ht2;replace ht3:=(HB4.out.cell (World.block_lt_of_cell? w _ ht3)).trans ht3;replace ht4:=(HB4.out.cell (World.block_lt_of_cell? w _ ht4)).trans ht4;replace ht5:=(HB4.out.cell (World.block_lt_of_cell? w _ ht5)).trans ht5;simp only [Int.toNat_natCast] at ht0 ht1 ht2 ht3 ht4 ht5;have hst:=sc_t_cons K p5.f2 j hltj L yt HT.out;generalize z6_ p5.f2 (j:Int)=t at *;obtain ⟨hsz,hst⟩:=hst;have HSZ:=a_ hsz;clear hsz;have hwj:wrap64 ((j:Int)+1)=((j+1:Nat):Int):=by unfold wrap64;have:=HJ6.out;omega
   have HWJ:=a_ hwj;clear hwj;by_cases k3:t.f0=3
   ·have p3:(t.f0==3)=true:=by simpa using k3
    have p2:(t.f0==2)=false:=by rw [k3];rfl
    have n2:¬t.f0=2:=by omega
    cases hemp:t.f2.toList.isEmpty with
    | true=>
     rw [if_neg (fun q=>by have:=q.2.1;rw [hemp] at this;cases this),if_neg n2] at hst;have HST2:=a_ hst;clear hst k3 n2;go_wp2;go_roundg (p5.f2.length-(j+1))
     case measure=>omega
     case rel=>exact ⟨j+1,nL,L,by omega,by omega,by rw [HWJ.out],⟨by have:=HNL.out;omega⟩,HST2,⟨z3_ HB4.out _⟩,⟨z5_ BK4.out _⟩,⟨z5_ BP4.out _⟩,⟨SetS.alloc SK4.out _⟩,⟨SetS.alloc SL4.out _⟩⟩
    | false=>
     cases hk:memS t.f2 K with
     | true=>
      rw [if_neg (fun q=>by have:=q.2.2.1;rw [hk] at this;cases this),if_neg n2] at hst;have HST2:=a_ hst;clear hst k3 n2;go_wp2_with fail;refine (impl_nameSet_has.calls (w.heap.size+1) nK K t.f2 _ (SetS.alloc SK4.out (.cells #[.int .i64 t.f0,.int .i64 t.f1,.string t.f2,.int .i64 t.f3.f0,.int .i64 t.f3.f1,.string t.f3.f2] 86)) HSZ.out).mono ?_;rintro e w5 ⟨rfl,hd⟩;have HB5:=a_ (y7_ (z3_ HB4.out (.cells #[.int .i64 t.f0,.int .i64 t.f1,.string t.f2,.int .i64 t.f3.f0,.int .i64 t.f3.f1,.string t.f3.f2] 86)) hd);have BK5:=a_ (zd_ (z5_ BK4.out (.cells #[.int .i64 t.f0,.int .i64 t.f1,.string t.f2,.int .i64 t.f3.f0,.int .i64 t.f3.f1,.string t.f3.f2] 86)) hd);have BP5:=a_ (zd_ (z5_ BP4.out (.cells #[.int .i64 t.f0,.int .i64 t.f1,.string t.f2,.int .i64 t.f3.f0,.int .i64 t.f3.f1,.string t.f3.f2] 86)) hd);have SK5:=a_ ((SetS.alloc SK4.out (.cells #[.int .i64 t.f0,.int .i64 t.f1,.string t.f2,.int .i64 t.f3.f0,.int .i64 t.f3.f1,.string t.f3.f2] 86)).kept (y9_ hd none) (by simp));have SL5:=a_ ((SetS.alloc SL4.out (.cells #[.int .i64 t.f0,.int .i64 t.f1,.string t.f2,.int .i64 t.f3.f0,.int .i64 t.f3.f1,.string t.f3.f2] 86)).kept (y9_ hd none) (by simp));have BT5:=zd_ (wh_ wr (.cells #[.int .i64 t.f0,.int .i64 t.f1,.string t.f2,.int .i64 t.f3.f0,.int .i64 t.f3.f1,.string t.f3.f2] 86)) hd;have hq0:=(z1_ BT5 0).trans rfl;have hq2:=(z1_ BT5 2).trans rfl;simp only [List.getElem?_toArray,List.getElem?_cons_zero,List.getElem?_cons_succ] at hq0 hq2;clear hd BT5;go_wp2;go_roundg (p5.f2.length-(j+1))
      case measure=>omega
      case rel=>exact ⟨j+1,nL,L,by omega,by omega,by rw [HWJ.out],⟨by have:=HNL.out;omega⟩,HST2,HB5,BK5,BP5,SK5,SL5⟩
     | false=>
      cases hl:memS t.f2 L with
      | true=>
       rw [if_neg (fun q=>by have:=q.2.2.2;rw [hl] at this;cases this),if_neg n2] at hst;have HST2:=a_ hst;clear hst k3 n2;go_wp2_with fail;refine (impl_nameSet_has.calls (w.heap.size+1) nK K t.f2 _ (SetS.alloc SK4.out (.cells #[.int .i64 t.f0,.int .i64 t.f1,.string t.f2,.int .i64 t.f3.f0,.int .i64 t.f3.f1,.string t.f3.f2] 86)) HSZ.out).mono ?_;rintro e w5 ⟨rfl,hd⟩;have HB5:=a_ (y7_ (z3_ HB4.out (.cells #[.int .i64 t.f0,.int .i64 t.f1,.string t.f2,.int .i64 t.f3.f0,.int .i64 t.f3.f1,.string t.f3.f2] 86)) hd);have BK5:=a_ (zd_ (z5_ BK4.out (.cells #[.int .i64 t.f0,.int .i64 t.f1,.string t.f2,.int .i64 t.f3.f0,.int .i64 t.f3.f1,.string t.f3.f2] 86)) hd);have BP5:=a_ (zd_ (z5_ BP4.out (.cells #[.int .i64 t.f0,.int .i64 t.f1,.string t.f2,.int .i64 t.f3.f0,.int .i64 t.f3.f1,.string t.f3.f2] 86)) hd);have SK5:=a_ ((SetS.alloc SK4.out (.cells #[.int .i64 t.f0,.int .i64 t.f1,.string t.f2,.int .i64 t.f3.f0,.int .i64 t.f3.f1,.string t.f3.f2] 86)).kept (y9_ hd none) (by simp));have SL5:=a_ ((SetS.alloc SL4.out (.cells #[.int .i64 t.f0,.int .i64 t.f1,.string t.f2,.int .i64 t.f3.f0,.int .i64 t.f3.f1,.string t.f3.f2] 86)).kept (y9_ hd none) (by simp));have BT5:=zd_ (wh_ wr (.cells #[.int .i64 t.f0,.int .i64 t.f1,.string t.f2,.int .i64 t.f3.f0,.int .i64 t.f3.f1,.string t.f3.f2] 86)) hd;have hq0:=(z1_ BT5 0).trans rfl;have hq2:=(z1_ BT5 2).trans rfl;simp only [List.getElem?_toArray,List.getElem?_cons_zero,List.getElem?_cons_succ] at hq0 hq2;clear hd BT5;go_wp2_with fail;refine (impl_nameSet_has.calls (wa.heap.size+1) nL L t.f2 _ SL5.out HSZ.out).mono ?_;rintro e w6 ⟨rfl,hd⟩;have HB6:=a_ (y7_ HB5.out hd);have BK6:=a_ (zd_ BK5.out hd);have BP6:=a_ (zd_ BP5.out hd);have SK6:=a_ (SK5.out.kept (y9_ hd none) (by simp));have SL6:=a_ (SL5.out.kept (y9_ hd none) (by simp));have hv0:=pw_cell_below hd hq0;have hv2:=pw_cell_below hd hq2;clear hd;go_wp2;go_roundg (p5.f2.length-(j+1))
       case measure=>omega
       case rel=>exact ⟨j+1,nL,L,by omega,by omega,by rw [HWJ.out],⟨by have:=HNL.out;omega⟩,HST2,HB6,BK6,BP6,SK6,SL6⟩
      | false=>
       rw [if_pos ⟨k3,hemp,hk,hl⟩] at hst;have e1:=Option.some.inj hst;have hs2:=HST.out;rw [←e1,if_neg (by simp)] at hs2;have e2:=Option.some.inj hs2;have hs3:=HH.out;rw [←e2] at hs3;have hn1:¬((i:Int)+1=-1):=by omega
       replace hs3:(if (i:Int)+1=-1 then _ else some ((i:Int)+1))=some r:=hs3
       rw [if_neg hn1] at hs3;have HR:z0_ ((i:Int)+1=r):=⟨Option.some.inj hs3⟩
       clear hst k3 n2 e1 hs2 e2 hs3 hn1;go_wp2_with fail;refine (impl_nameSet_has.calls (w.heap.size+1) nK K t.f2 _ (SetS.alloc SK4.out (.cells #[.int .i64 t.f0,.int .i64 t.f1,.string t.f2,.int .i64 t.f3.f0,.int .i64 t.f3.f1,.string t.f3.f2] 86)) HSZ.out).mono ?_;rintro e w5 ⟨rfl,hd⟩;have HB5:=a_ (y7_ (z3_ HB4.out (.cells #[.int .i64 t.f0,.int .i64 t.f1,.string t.f2,.int .i64 t.f3.f0,.int .i64 t.f3.f1,.string t.f3.f2] 86)) hd);have BK5:=a_ (zd_ (z5_ BK4.out (.cells #[.int .i64 t.f0,.int .i64 t.f1,.string t.f2,.int .i64 t.f3.f0,.int .i64 t.f3.f1,.string t.f3.f2] 86)) hd);have BP5:=a_ (zd_ (z5_ BP4.out (.cells #[.int .i64 t.f0,.int .i64 t.f1,.string t.f2,.int .i64 t.f3.f0,.int .i64 t.f3.f1,.string t.f3.f2] 86)) hd);have SK5:=a_ ((SetS.alloc SK4.out (.cells #[.int .i64 t.f0,.int .i64 t.f1,.string t.f2,.int .i64 t.f3.f0,.int .i64 t.f3.f1,.string t.f3.f2] 86)).kept (y9_ hd none) (by simp));have SL5:=a_ ((SetS.alloc SL4.out (.cells #[.int .i64 t.f0,.int .i64 t.f1,.string t.f2,.int .i64 t.f3.f0,.int .i64 t.f3.f1,.string t.f3.f2] 86)).kept (y9_ hd none) (by simp));have BT5:=zd_ (wh_ wr (.cells #[.int .i64 t.f0,.int .i64 t.f1,.string t.f2,.int .i64 t.f3.f0,.int .i64 t.f3.f1,.string t.f3.f2] 86)) hd;have hq0:=(z1_ BT5 0).trans rfl;have hq2:=(z1_ BT5 2).trans rfl;simp only [List.getElem?_toArray,List.getElem?_cons_zero,List.getElem?_cons_succ] at hq0 hq2;clear hd BT5;go_wp2_with fail;refine (impl_nameSet_has.calls (wa.heap.size+1) nL L t.f2 _ SL5.out HSZ.out).mono ?_;rintro e w6 ⟨rfl,hd⟩;have HB6:=a_ (y7_ HB5.out hd);have BK6:=a_ (zd_ BK5.out hd);have BP6:=a_ (zd_ BP5.out hd);have SK6:=a_ (SK5.out.kept (y9_ hd none) (by simp));have SL6:=a_ (SL5.out.kept (y9_ hd none) (by simp));have hv0:=pw_cell_below hd hq0;have hv2:=pw_cell_below hd hq2;clear hd;go_wp2;go_ret;exact ⟨by rw [←HR.out,show wrap64 ((i:Int)+1)=(i:Int)+1 by unfold wrap64;have:=C0.out.1;omega];rfl,HB6.out⟩
   ·have p3:(t.f0==3)=false:=by simpa using k3
    rw [if_neg (fun q=>k3 q.1)] at hst;by_cases k2:t.f0=2
    ·have p2:(t.f0==2)=true:=by simpa using k2
     rw [if_pos k2] at hst;have HST2:=a_ hst;clear hst k3 k2;go_wp2_with (at_mapUpdate;refine wpList_addS rfl _ _ _ 171 172 Tryz.underlying171 rfl (wa.heap.size+1) nL L (SetS.alloc SL4.out _) (lt_maxLen (by have:=HNL.out;have:=HJ6.out;omega)) rfl t.f2 HSZ.out rfl rfl ?_;intro w2 hs2 hg2;have HB5:z0_ (Below w.heap.size w w2):=⟨(z3_ HB4.out _).grown hg2 (by have:=HS1.out;have:=HB4.out.size;simp;omega) (by intro q e;injection e with e;have:=HS1.out;omega)⟩;have BK5:=a_ (zk_ (z5_ BK4.out (.cells #[.int .i64 t.f0,.int .i64 t.f1,.string t.f2,.int .i64 t.f3.f0,.int .i64 t.f3.f1,.string t.f3.f2] 86)) hg2 (by intro e;injection e with e;have:=HS1.out;omega));have BP5:=a_ (zk_ (z5_ BP4.out (.cells #[.int .i64 t.f0,.int .i64 t.f1,.string t.f2,.int .i64 t.f3.f0,.int .i64 t.f3.f1,.string t.f3.f2] 86)) hg2 (by intro e;injection e with e;omega));have SK5:=a_ ((SetS.alloc SK4.out (.cells #[.int .i64 t.f0,.int .i64 t.f1,.string t.f2,.int .i64 t.f3.f0,.int .i64 t.f3.f1,.string t.f3.f2] 86)).kept hg2 (by intro e;injection e with e;have:=HS1.out;omega));have SL5:=a_ hs2;clear hs2 hg2;go_frame);go_roundg (p5.f2.length-(j+1))
     case measure=>omega
     case rel=>exact ⟨j+1,nL+1,t.f2::L,by omega,by omega,by rw [HWJ.out],⟨by have:=HNL.out;omega⟩,HST2,HB5,BK5,BP5,SK5,SL5⟩
    ·have p2:(t.f0==2)=false:=by simpa using k2
     rw [if_neg k2] at hst;have HST2:=a_ hst;clear hst k3 k2;go_wp2;go_roundg (p5.f2.length-(j+1))
     case measure=>omega
     case rel=>exact ⟨j+1,nL,L,by omega,by omega,by rw [HWJ.out],⟨by have:=HNL.out;omega⟩,HST2,⟨z3_ HB4.out _⟩,⟨z5_ BK4.out _⟩,⟨z5_ BP4.out _⟩,⟨SetS.alloc SK4.out _⟩,⟨SetS.alloc SL4.out _⟩⟩
  ·have hjl:j=p5.f2.length:=by omega
   have e0:=HT.out;rw [hjl,List.drop_length] at e0;unfold sc_t at e0
   have e1:=Option.some.inj e0;have hs2:=HST.out;rw [←e1,if_pos rfl] at hs2;have HST2:=a_ hs2;have HJ6:z0_ (nL≤6):=⟨by have:=HNL.out;have:=HL6.out;omega⟩
   have HWI:z0_ (wrap64 ((i:Int)+1)=((i+1:Nat):Int)):=⟨by unfold wrap64;have:=C0.out.1;omega⟩
   clear e0 e1 hs2 hjl HT;obtain ⟨wb,hwb⟩:∃x,x=wr:=⟨_,rfl⟩;subst hwb;have hp0:=(z1_ BP4.out 0).trans rfl;simp only [List.getElem?_toArray,List.getElem?_cons_zero,List.getElem?_cons_succ] at hp0;cases hneg:p5.f0 with
   | true=>
    rw [hneg] at hp0;have HST3:=HST2.out;rw [hneg,if_pos rfl] at HST3;have HST4:=a_ HST3;clear HST3 hneg;go_wp2;go_roundg (ps.length-(i+1))
    case measure=>omega
    case rel=>exact ⟨i+1,nK,K,by omega,by omega,by rw [HWI.out],⟨by have:=HN.out;omega⟩,HST4,HB4,BK4,SK4⟩
   | false=>
    rw [hneg] at hp0;have HST3:=HST2.out;rw [hneg,if_neg (by simp)] at HST3;have HST4:=a_ HST3;clear HST3 hneg;have hbs:wa.heap.size+1<wb.heap.size:=SL4.out.lt
    have HBS:=a_ hbs;clear hbs;go_wp2_with (at_range;refine wpList_rangeU rfl _ 171 172 Tryz.underlying171 rfl (wa.heap.size+1) nL L SL4.out (w.heap.size+1) nK K SK4.out rfl ?_;intro w2 cnt0 hu2 hg2 hs2;have HU2:=a_ hu2;have HB5:z0_ (Below w.heap.size w w2):=⟨HB4.out.grown hg2 HB4.out.size (fun _ e=>by cases e)⟩;have BK5:=a_ (zk_ BK4.out hg2 (by simp));clear hu2 hg2 hs2;go_frame);go_loopg [9] cnt0 (fun gg v9 wr=>∃cnt:Nat,cnt≤gg∧z0_ (URel wr (wa.heap.size+1) wb.heap.size nL L (w.heap.size+1) nK K cnt)∧z0_ (Below w.heap.size w wr)∧z0_ (wr.heap[w.heap.size]?=some (.cells #[.string nm,.int .i64 sa,.slice (some ad) ps.length c2,.slice A3 es.length c3,.slice A4 as_.length c4] 39 (0,0))))
    case atStart=>exact ⟨cnt0,Nat.le_refl _,HU2,HB5,BK5⟩
    obtain ⟨cnt,hcg,HU,HB6,BK6⟩:=hrel;go_wp2_with (at_next;refine wpList_nextU rfl _ rfl (wa.heap.size+1) wb.heap.size nL L (w.heap.size+1) nK K cnt rfl HU.out ?_ ?_)
    ·intro hs;have SK7:=a_ hs;clear hs;go_wp2;go_roundg (ps.length-(i+1))
     case measure=>omega
     case rel=>exact ⟨i+1,nK+nL,L++K,by omega,by omega,by rw [HWI.out],⟨by have:=HN.out;have:=HJ6.out;omega⟩,HST4,HB6,BK6,SK7⟩
    ·intro x w3 cnt3 hxs hlt3 hmid hg3 hs3 hen;have HM:=a_ hmid;have HXS:=a_ hxs;have HB7:z0_ (Below w.heap.size w w3):=⟨HB6.out.grown hg3 HB6.out.size (by intro q e;injection e with e;have:=HS1.out;have:=HBS.out;omega)⟩
     have BK7:=a_ (zk_ BK6.out hg3 (by intro e;injection e with e;have:=HS1.out;have:=HBS.out;omega));clear hmid hxs hg3 hs3;go_wp2_with (at_mapUpdate;refine wpList_addU rfl _ _ _ 171 172 Tryz.underlying171 rfl (wa.heap.size+1) wb.heap.size nL L (w.heap.size+1) nK K cnt3 x HM.out (by have:=HS1.out;omega) (lt_maxLen (by have:=HN.out;have:=HJ6.out;have:=C0.out.1;omega)) rfl HXS.out rfl rfl ?_;intro w4 hu4 hg4;have HU4:=a_ hu4;have HB8:z0_ (Below w.heap.size w w4):=⟨HB7.out.grown hg4 HB7.out.size (by intro q e;injection e with e;omega)⟩;have BK8:=a_ (zk_ BK7.out hg4 (by intro e;injection e with e;omega));clear hu4 hg4;go_frame);go_roundg cnt3
     case measure=>omega
     case rel=>exact ⟨cnt3,Nat.le_refl _,HU4,HB8,BK8⟩
 ·have hil:i=ps.length:=by omega
  subst hil;have e0:=HY.out;rw [List.drop_length] at e0;unfold sc_p at e0
  have e1:=Option.some.inj e0;have h2:=HH.out;rw [←e1,if_pos rfl] at h2;have HA:z0_ (sc_acts es K ps.length (as_.drop 0) 0 0=some r):=⟨h2⟩
  clear e0 e1 h2 HY HH;have ha4:=(z1_ BK.out 4).trans rfl;simp only [List.getElem?_toArray,List.getElem?_cons_zero,List.getElem?_cons_succ] at ha4;go_wp2;go_loopg [83,10] as_.length (fun gg v83 v10 wr=>∃(m:Nat) (k:Int),m≤as_.length∧as_.length-m≤gg∧v83=.int .i64 (m:Int)∧v10=.int .i64 k∧z0_ (sc_acts es K ps.length (as_.drop m) m k=some r)∧z0_ (Below w.heap.size w wr)∧z0_ (wr.heap[w.heap.size]?=some (.cells #[.string nm,.int .i64 sa,.slice A2 ps.length c2,.slice A3 es.length c3,.slice A4 as_.length c4] 39 (0,0)))∧z0_ (SetS wr (w.heap.size+1) nK K))
  case atStart=>exact ⟨0,0,Nat.zero_le _,Nat.le_refl _,rfl,rfl,HA,HB,BK,SK⟩
  clear HA ha4 HB BK SK;obtain ⟨m,k,hm,hggm,rfl,rfl,HA,HB,BK,SK⟩:=hrel;by_cases hltm:m<as_.length
  ·have hz:(m:Int)<(as_.length:Int):=by omega
   have hz0:(0:Int)≤(m:Int):=by omega
   have HM8:z0_ (m≤8):=⟨by have:=C0.out.2.2;omega⟩
   obtain ⟨ad,A7,c7,e0,hx0,hx1,hx2,hx3,hl7,hC7⟩:=at_T98 HR4.out (m:Int) hz0 hz;cases e0;replace hx0:=mx_ HB hx0;replace hx1:=mx_ HB hx1;replace hx2:=mx_ HB hx2;replace hx3:=mx_ HB hx3;simp only [Int.toNat_natCast] at hx0 hx1 hx2 hx3;have HC7:=a_ hC7;have hst:=sc_acts_cons es K ps.length as_ m hltm k r HA.out;clear hC7 hl7;generalize y3_ as_ (m:Int)=a7 at *;obtain ⟨yd,hyd,hst⟩:=Option.bind_eq_some_iff.1 hst;have HD:z0_ (sc_args es K (a7.f3.drop 0) k=some yd):=⟨hyd⟩
   have HST:=a_ hst;clear hyd hst;obtain ⟨wc,hwc⟩:∃x,x=wr:=⟨_,rfl⟩;subst hwc;go_wp2;go_loopg [91,10] a7.f3.length (fun gg v91 v10 wr=>∃(q:Nat) (k:Int),q≤a7.f3.length∧a7.f3.length-q≤gg∧v91=.int .i64 (q:Int)∧v10=.int .i64 k∧z0_ (sc_args es K (a7.f3.drop q) k=some yd)∧z0_ (Below w.heap.size w wr)∧z0_ (wr.heap[w.heap.size]?=some (.cells #[.string nm,.int .i64 sa,.slice A2 ps.length c2,.slice A3 es.length c3,.slice (some ad) as_.length c4] 39 (0,0)))∧z0_ (SetS wr (w.heap.size+1) nK K))
   case atStart=>exact ⟨0,k,Nat.zero_le _,Nat.le_refl _,rfl,rfl,HD,⟨z3_ HB.out _⟩,⟨z5_ BK.out _⟩,⟨SetS.alloc SK.out _⟩⟩
   clear HD HB BK SK;obtain ⟨q,k,hq,hggq,rfl,rfl,HD,HB,BK,SK⟩:=hrel;by_cases hltq:q<a7.f3.length
   ·have hzq:(q:Int)<(a7.f3.length:Int):=by omega
    have hzq0:(0:Int)≤(q:Int):=by omega
    have HQL:z0_ (a7.f3.length≤9223372036854775807):=⟨HC7.out.2.1⟩
    obtain ⟨adq,eq0,hxq⟩:=Kd.at_int HC7.out (q:Int) hzq0 hzq;subst eq0;replace hxq:=mx_ HB hxq;simp only [Int.toNat_natCast] at hxq;have hst:=sc_args_cons es K a7.f3 q hltq k yd HD.out;generalize rd a7.f3 (q:Int)=v at *;obtain ⟨ye,hye,hst⟩:=Option.bind_eq_some_iff.1 hst;have HE:=a_ hye;have HST2:=a_ hst;clear hye hst;obtain ⟨wd,hwd⟩:∃x,x=wr:=⟨_,rfl⟩;subst hwd;go_wp2;go_loopg [10] es.length (fun gg v10 wr=>∃(fu:Nat) (k:Int),fu≤gg∧v10=.int .i64 k∧z0_ (sc_e es K fu k v=some ye)∧z0_ (Below w.heap.size w wr)∧z0_ (wr.heap[w.heap.size]?=some (.cells #[.string nm,.int .i64 sa,.slice A2 ps.length c2,.slice A3 es.length c3,.slice (some ad) as_.length c4] 39 (0,0)))∧z0_ (SetS wr (w.heap.size+1) nK K))
    case atStart=>exact ⟨es.length,k,Nat.le_refl _,rfl,HE,HB,BK,SK⟩
    clear HE HB BK SK;obtain ⟨fu,k,hfu,rfl,HE,HB,BK,SK⟩:=hrel;by_cases hkv:k≤v
    ·cases fu with
     | zero=>
      have e0:=HE.out;unfold sc_e at e0
      rw [if_pos hkv] at e0;cases e0
     | succ fu=>
      have e0:=HE.out;unfold sc_e at e0
      rw [if_pos hkv] at e0;by_cases hc:0≤k∧k<(es.length:Int)∧(z2_ es k).f2.size≤maxLen
      rotate_left
      ·rw [if_neg hc] at e0;cases e0
      rw [if_pos hc] at e0;obtain ⟨hk0,hk1,hsz⟩:=hc;have HSZ:=a_ hsz;clear hsz;have HK60:z0_ (wrap64 (k+1)=k+1):=⟨by unfold wrap64;have:=C0.out.2.1;omega⟩
      obtain ⟨ade,ee0,hx0,hx1,hx2,hx3,hx4,hx5,hx6,hx7⟩:=at_T161 HR3.out k hk0 hk1;cases ee0;replace hx0:=mx_ HB hx0;replace hx1:=mx_ HB hx1;replace hx2:=mx_ HB hx2;replace hx3:=mx_ HB hx3;replace hx4:=mx_ HB hx4;replace hx5:=mx_ HB hx5;replace hx6:=mx_ HB hx6;replace hx7:=mx_ HB hx7;have hb3:=(z1_ BK.out 3).trans rfl;simp only [List.getElem?_toArray,List.getElem?_cons_zero,List.getElem?_cons_succ] at hb3;have qkv:decide (k≤v)=true:=decide_eq_true hkv
      generalize z2_ es k=x at *;by_cases k1:x.f0=1
      ·have p1:(x.f0==1)=true:=by simpa using k1
       cases hk:memS x.f2 K with
       | true=>
        rw [if_neg (fun q=>by have:=q.2;rw [hk] at this;cases this)] at e0;have HE2:=a_ e0;clear e0 k1 hkv;go_wp2_with fail;refine (impl_nameSet_has.calls (w.heap.size+1) nK K x.f2 _ (SetS.alloc SK.out (.cells #[.int .i64 x.f0,.int .u8 x.f1,.string x.f2,.int .i64 x.f3.f0,.int .i64 x.f3.f1,.string x.f3.f2,.int .i64 x.f4,.int .i64 x.f5] 161)) HSZ.out).mono ?_;rintro e w5 ⟨rfl,hd⟩;have HB5:=a_ (y7_ (z3_ HB.out (.cells #[.int .i64 x.f0,.int .u8 x.f1,.string x.f2,.int .i64 x.f3.f0,.int .i64 x.f3.f1,.string x.f3.f2,.int .i64 x.f4,.int .i64 x.f5] 161)) hd);have BK5:=a_ (zd_ (z5_ BK.out (.cells #[.int .i64 x.f0,.int .u8 x.f1,.string x.f2,.int .i64 x.f3.f0,.int .i64 x.f3.f1,.string x.f3.f2,.int .i64 x.f4,.int .i64 x.f5] 161)) hd);have SK5:=a_ ((SetS.alloc SK.out (.cells #[.int .i64 x.f0,.int .u8 x.f1,.string x.f2,.int .i64 x.f3.f0,.int .i64 x.f3.f1,.string x.f3.f2,.int .i64 x.f4,.int .i64 x.f5] 161)).kept (y9_ hd none) (by simp));clear hd;go_wp2;go_roundg fu
        case measure=>omega
        case rel=>exact ⟨fu,k+1,Nat.le_refl _,by rw [HK60.out],HE2,HB5,BK5,SK5⟩
       | false=>
        rw [if_pos ⟨k1,hk⟩] at e0;have e1:=Option.some.inj e0;have h3:=HST2.out;rw [←e1,if_neg (by simp)] at h3;have e2:=Option.some.inj h3;have h4:=HST.out;rw [←e2,if_neg (by simp)] at h4;have HR:z0_ ((ps.length:Int)+(m:Int)+1=r):=⟨Option.some.inj h4⟩
        clear e0 e1 h3 e2 h4 k1 hkv;go_wp2_with fail;refine (impl_nameSet_has.calls (w.heap.size+1) nK K x.f2 _ (SetS.alloc SK.out (.cells #[.int .i64 x.f0,.int .u8 x.f1,.string x.f2,.int .i64 x.f3.f0,.int .i64 x.f3.f1,.string x.f3.f2,.int .i64 x.f4,.int .i64 x.f5] 161)) HSZ.out).mono ?_;rintro e w5 ⟨rfl,hd⟩;have HB5:=a_ (y7_ (z3_ HB.out (.cells #[.int .i64 x.f0,.int .u8 x.f1,.string x.f2,.int .i64 x.f3.f0,.int .i64 x.f3.f1,.string x.f3.f2,.int .i64 x.f4,.int .i64 x.f5] 161)) hd);have BK5:=a_ (zd_ (z5_ BK.out (.cells #[.int .i64 x.f0,.int .u8 x.f1,.string x.f2,.int .i64 x.f3.f0,.int .i64 x.f3.f1,.string x.f3.f2,.int .i64 x.f4,.int .i64 x.f5] 161)) hd);have SK5:=a_ ((SetS.alloc SK.out (.cells #[.int .i64 x.f0,.int .u8 x.f1,.string x.f2,.int .i64 x.f3.f0,.int .i64 x.f3.f1,.string x.f3.f2,.int .i64 x.f4,.int .i64 x.f5] 161)).kept (y9_ hd none) (by simp));clear hd;have hb2:=(z1_ BK5.out 2).trans rfl;simp only [List.getElem?_toArray,List.getElem?_cons_zero,List.getElem?_cons_succ] at hb2;go_wp2;go_ret;exact ⟨by rw [←HR.out,show wrap64 ((ps.length:Int)+(m:Int))=(ps.length:Int)+(m:Int) by unfold wrap64;have:=C0.out.1;have:=HM8.out;omega,show wrap64 ((ps.length:Int)+(m:Int)+1)=(ps.length:Int)+(m:Int)+1 by unfold wrap64;have:=C0.out.1;have:=HM8.out;omega];rfl,HB5.out⟩
      ·have p1:(x.f0==1)=false:=by simpa using k1
       rw [if_neg (fun q=>k1 q.1)] at e0;have HE2:=a_ e0;clear e0 k1 hkv;go_wp2;go_roundg fu
       case measure=>omega
       case rel=>exact ⟨fu,k+1,Nat.le_refl _,by rw [HK60.out],HE2,⟨z3_ HB.out _⟩,⟨z5_ BK.out _⟩,⟨SetS.alloc SK.out _⟩⟩
    ·have qkv:decide (k≤v)=false:=decide_eq_false hkv
     have e0:sc_e es K fu k v=some (true,k):=by
      cases fu<;>(unfold sc_e;rw [if_neg hkv])
     rw [HE.out] at e0;have e1:=Option.some.inj e0;have h3:=HST2.out;rw [e1,if_pos rfl] at h3;have HST3:=a_ h3;clear e0 e1 h3 hkv;go_wp2;go_roundg (a7.f3.length-(q+1))
     case measure=>omega
     case rel=>exact ⟨q+1,k,by omega,by omega,by rw [show wrap64 ((q:Int)+1)=((q+1:Nat):Int) by unfold wrap64;have:=HQL.out;omega],rfl,HST3,HB,BK,SK⟩
   ·have hql:q=a7.f3.length:=by omega
    have e0:=HD.out;rw [hql,List.drop_length] at e0;unfold sc_args at e0
    have e1:=Option.some.inj e0;have h3:=HST.out;rw [←e1,if_pos rfl] at h3;have HST3:=a_ h3;clear e0 e1 h3 hql;go_wp2;go_roundg (as_.length-(m+1))
    case measure=>omega
    case rel=>exact ⟨m+1,k,by omega,by omega,by rw [show wrap64 ((m:Int)+1)=((m+1:Nat):Int) by unfold wrap64;have:=HM8.out;omega],rfl,HST3,HB,BK,SK⟩
  ·have hml:m=as_.length:=by omega
   have e0:=HA.out;rw [hml,List.drop_length] at e0;unfold sc_acts at e0
   have e1:=Option.some.inj e0;subst e1;clear e0 hml;go_wp2;go_ret;exact ⟨rfl,HB.out⟩
theorem xc_.calls (a0_0:ByteArray) (a0_1:Int) (A0_2:Option Addr) (c0_2:Nat) (l0_2:List S42) (A0_3:Option Addr) (c0_3:Nat) (l0_3:List S161) (A0_4:Option Addr) (c0_4:Nat) (l0_4:List S98) (r:Int) (w:World) (hr0_2:Kd.C k42 w A0_2 l0_2.length l0_2) (hc0_2:l0_2.length≤c0_2) (hr0_3:Kd.C k161 w A0_3 l0_3.length l0_3) (hc0_3:l0_3.length≤c0_3) (hr0_4:Kd.C k98 w A0_4 l0_4.length l0_4) (hc0_4:l0_4.length≤c0_4) (h:xc_.f a0_0 a0_1 l0_2 l0_3 l0_4=some r):
  Calls Tryz.prog 112 #[.agg #[.string a0_0,.int .i64 a0_1,.slice A0_2 l0_2.length c0_2,.slice A0_3 l0_3.length c0_3,.slice A0_4 l0_4.length c0_4]] w fun e w'=>e=.returned (.int .i64 r)∧Below w.heap.size w w':=
 xc_.walk a0_0 a0_1 A0_2 c0_2 l0_2 A0_3 c0_3 l0_3 A0_4 c0_4 l0_4 r w hr0_2 hr0_3 hr0_4 h
def ck_acts (n:Int) (lp:Nat):List S98→Nat→Int
 | [],_=>-1
 | a::as_,j=>if (a.f0=2∨a.f0=3)∧(a.f1<1∨n<a.f1) then (lp:Int)+(j:Int)+1 else ck_acts n lp as_ (j+1)
def ck_rules (k:Nat):List S39→Nat→List ByteArray→Option (Int×Int×Int)
 | [],_,_=>some (0,0,0)
 | q::qs,i,M=>if q.f0.size≤maxLen then (xq_.f q.f0 q.f1 q.f2 q.f3 q.f4).bind fun s=>if 0≤s then some (1,(i:Int),s) else
   if memS q.f0 M=true then some (2,(i:Int),0) else
   (zm_.f k q.f0 q.f1 q.f2 q.f3 q.f4).bind fun n=>if n<1∨3<n then some (3,(i:Int),0) else
   (xc_.f q.f0 q.f1 q.f2 q.f3 q.f4).bind fun c=>if 0≤c then some (4,(i:Int),c) else
   if q.f2.length≤6∧q.f4.length≤8 then (if ck_acts n q.f2.length q.f4 0=-1 then ck_rules k qs (i+1) (q.f0::M) else some (5,(i:Int),ck_acts n q.f2.length q.f4 0)) else none
  else none
def xz_.f (k:Nat) (l0:List S39):Option (Int×Int×Int):=if 16<l0.length then some (1,0,0) else ck_rules k l0 0 []
theorem ck_rules_mono (k:Nat):∀(l:List S39) (i:Nat) (M:List ByteArray),LeO (ck_rules k l i M) (ck_rules (k+1) l i M)
 | [],i,M=>LeO.refl _
 | q::qs,i,M=>LeO.ite (LeO.bind (LeO.refl _) (fun _=>LeO.ite (LeO.refl _) (LeO.ite (LeO.refl _) (LeO.bind (zm_.mono _ _ _ _ _ k) (fun _=>LeO.ite (LeO.refl _) (LeO.bind (LeO.refl _) (fun _=>LeO.ite (LeO.refl _) (LeO.ite (LeO.ite (ck_rules_mono k qs _ _) (LeO.refl _)) (LeO.refl _))))))))) (LeO.refl _)
theorem xz_.mono:∀a0 k,LeO (xz_.f k a0) (xz_.f (k+1) a0):=by
 intro a0 k;unfold xz_.f
 exact LeO.ite (LeO.refl _) (ck_rules_mono k _ _ _)
theorem ck_acts_cons (n:Int) (lp:Nat) (as_:List S98) (j:Nat) (h:j<as_.length) (v:Int) (hg:ck_acts n lp (as_.drop j) j=v):(if ((y3_ as_ (j:Int)).f0=2∨(y3_ as_ (j:Int)).f0=3)∧((y3_ as_ (j:Int)).f1<1∨n<(y3_ as_ (j:Int)).f1) then (lp:Int)+(j:Int)+1 else ck_acts n lp (as_.drop (j+1)) (j+1))=v:=by
 have e:y3_ as_ (j:Int)=as_[j]:=by
  unfold y3_
  simp [h]
 rw [List.drop_eq_getElem_cons h] at hg;unfold ck_acts at hg
 rw [e];exact hg
theorem ck_rules_cons (k:Nat) (l:List S39) (i:Nat) (h:i<l.length) (M:List ByteArray) (y:Int×Int×Int) (hg:ck_rules k (l.drop i) i M=some y):
  (fun q:S39=>if q.f0.size≤maxLen then (xq_.f q.f0 q.f1 q.f2 q.f3 q.f4).bind fun s=>if 0≤s then some (1,(i:Int),s) else
   if memS q.f0 M=true then some (2,(i:Int),0) else
   (zm_.f k q.f0 q.f1 q.f2 q.f3 q.f4).bind fun n=>if n<1∨3<n then some (3,(i:Int),0) else
   (xc_.f q.f0 q.f1 q.f2 q.f3 q.f4).bind fun c=>if 0≤c then some (4,(i:Int),c) else
   if q.f2.length≤6∧q.f4.length≤8 then (if ck_acts n q.f2.length q.f4 0=-1 then ck_rules k (l.drop (i+1)) (i+1) (q.f0::M) else some (5,(i:Int),ck_acts n q.f2.length q.f4 0)) else none
  else none) (z9_ l (i:Int))=some y:=by
 have e:z9_ l (i:Int)=l[i]:=by
  unfold z9_
  simp [h]
 rw [List.drop_eq_getElem_cons h] at hg;unfold ck_rules at hg
 rw [e];exact hg
theorem ck_res {w:World} {g:Nat} {a b c x y z:Int} (h:w.heap[g]?=some (.cells #[.int .i64 a,.int .i64 b,.int .i64 c] 128 (0,0))):
  (((w.setCell ⟨g,0,none⟩ (.int .i64 x)).setCell ⟨g,1,none⟩ (.int .i64 y)).setCell ⟨g,2,none⟩ (.int .i64 z)).heap[g]?=some (.cells #[.int .i64 x,.int .i64 y,.int .i64 z] 128 (0,0)):=
 wt_ (wt_ (wt_ h 0 _ rfl) 1 _ rfl) 2 _ rfl
theorem ck_below {w W:World} {g:Nat} {u v x:Value} (h:Below w.heap.size w W) (hg:w.heap.size≤g):Below w.heap.size w (((W.setCell ⟨g,0,none⟩ u).setCell ⟨g,1,none⟩ v).setCell ⟨g,2,none⟩ x):=
 zu_ (zu_ (zu_ h hg) hg) hg
theorem u049_2 {p:Prop} (h:p:=by
 exact ⟨j+1,by omega,by omega,by rw [show wrap64 ((j:Int)+1)=((j+1:Nat):Int) by unfold wrap64;have:=HJ8.out;omega],HM2,⟨z3_ HB6.out _⟩,⟨z5_ BR6.out _⟩,⟨z5_ BX6.out _⟩,⟨SetS.alloc SN6.out _⟩⟩):p:=h
theorem u049_0 {p:Prop} (h:p:=by
 subst hac;have h2:=HST.out;rw [if_neg (by omega)] at h2;cases h2;have hb2:=(z1_ (z5_ BX6.out (.cells #[.int .i64 a.f0,.int .i64 a.f1,.string a.f2,.slice A7 a.f3.length c7] 98)) 2).trans rfl;have hr0:=(z1_ (z5_ BR6.out (.cells #[.int .i64 a.f0,.int .i64 a.f1,.string a.f2,.slice A7 a.f3.length c7] 98)) 0).trans rfl;have hr1:=(z1_ (z5_ BR6.out (.cells #[.int .i64 a.f0,.int .i64 a.f1,.string a.f2,.slice A7 a.f3.length c7] 98)) 1).trans rfl;have hr2:=(z1_ (z5_ BR6.out (.cells #[.int .i64 a.f0,.int .i64 a.f1,.string a.f2,.slice A7 a.f3.length c7] 98)) 2).trans rfl;have hf0:=zf_ (z5_ BR6.out (.cells #[.int .i64 a.f0,.int .i64 a.f1,.string a.f2,.slice A7 a.f3.length c7] 98)) 0;have hf1:=zf_ (z5_ BR6.out (.cells #[.int .i64 a.f0,.int .i64 a.f1,.string a.f2,.slice A7 a.f3.length c7] 98)) 1;have hf2:=zf_ (z5_ BR6.out (.cells #[.int .i64 a.f0,.int .i64 a.f1,.string a.f2,.slice A7 a.f3.length c7] 98)) 2;simp only [List.getElem?_toArray,List.getElem?_cons_zero,List.getElem?_cons_succ] at hb2 hr0 hr1 hr2;have HW1:z0_ (wrap64 ((q.f2.length:Int)+(j:Int))=(q.f2.length:Int)+(j:Int)∧wrap64 ((q.f2.length:Int)+(j:Int)+1)=(q.f2.length:Int)+(j:Int)+1):=⟨by unfold wrap64;have:=HLN.out.1;have:=HJ8.out;omega⟩
 go_wp2;rw [HW1.out.1,HW1.out.2];refine bodyPost_ret (results_cell_row rfl _ _ w.heap.size 128 _ (0,0) _ rfl (ck_res (z5_ BR6.out (.cells #[.int .i64 a.f0,.int .i64 a.f1,.string a.f2,.slice A7 a.f3.length c7] 98))) Tryz.underlying128 rfl (by kernel_rfl)) rfl ⟨rfl,ck_below (z3_ HB6.out (.cells #[.int .i64 a.f0,.int .i64 a.f1,.string a.f2,.slice A7 a.f3.length c7] 98)) (Nat.le_refl _)⟩):p:=h
theorem u049_1 {p:Prop} (h:p:=by
 have p5:decide (n<a.f1)=false:=decide_eq_false b2
 rw [if_neg (by intro z;rcases z.2 with z|z;exact b1 z;exact b2 z)] at hac;have HM2:=a_ hac;clear hac b1 b2;go_wp2;go_roundg (q.f4.length-(j+1))
 case measure=>omega
 case rel=>exact u049_2):p:=h
set_option maxHeartbeats 16000000 in
set_option maxRecDepth 100000 in
theorem xz_.calls (k:Nat) (A0:Option Addr) (c0:Nat) (l0:List (S39)) (r1:Int) (r2:Int) (r3:Int) (w:World) (hr0:Kd.C k39 w A0 l0.length l0) (hc0:l0.length≤c0) (h:xz_.f k l0=some (r1,r2,r3)):
  Calls Tryz.prog 63 #[.slice A0 l0.length c0] w fun e w'=>e=.returned (.agg #[.int .i64 r1,.int .i64 r2,.int .i64 r3])∧Below w.heap.size w w':=by
 have hu:=Tryz.underlying39;have hu2:=Tryz.underlying98;have hu3:=Tryz.underlying128;have HR0:=a_ hr0;clear hr0 hc0;have HB0:=a_ (z3_ (Below.refl w.heap.size w) (.cells #[.int .i64 0,.int .i64 0,.int .i64 0] 128));have BR0:=a_ (wh_ w (.cells #[.int .i64 0,.int .i64 0,.int .i64 0] 128));unfold xz_.f at h
 by_cases c16:16<l0.length
 ·rw [if_pos c16] at h;cases h;have q16:decide ((16:Int)<(l0.length:Int))=true:=decide_eq_true (by omega)
  clear c16;go_enter Tryz.func63,Tryz.ntmps63;go_wp2;refine bodyPost_ret (results_cell_row rfl _ _ w.heap.size 128 #[.int .i64 1,.int .i64 0,.int .i64 0] (0,0) _ rfl (wh_ w _) Tryz.underlying128 rfl (by kernel_rfl)) rfl ⟨rfl,z3_ (Below.refl _ _) _⟩
 rw [if_neg c16] at h;have q16:decide ((16:Int)<(l0.length:Int))=false:=decide_eq_false (by omega)
 have L16:z0_ (l0.length≤16):=⟨by omega⟩
 clear c16;have HY:z0_ (ck_rules k (l0.drop 0) 0 []=some (r1,r2,r3)):=⟨h⟩
 clear h;have HB:=a_ (z3_ HB0.out (.map #[] 0));have BR:=a_ (z5_ BR0.out (.map #[] 0));have SN:z0_ (SetS ((w.alloc (.cells #[.int .i64 0,.int .i64 0,.int .i64 0] 128)).alloc (.map #[] 0)) (w.heap.size+1) 0 []):=⟨by have:=SetS_made (w.alloc (.cells #[.int .i64 0,.int .i64 0,.int .i64 0] 128));rwa [show (w.alloc (.cells #[.int .i64 0,.int .i64 0,.int .i64 0] 128)).heap.size=w.heap.size+1 by simp] at this⟩
 clear BR0 HB0;have hmm:=@run_makeMap Tryz.prog;go_enter Tryz.func63,Tryz.ntmps63;go_wp2;go_loopg [18] l0.length (fun gg v18 wr=>∃(i nN:Nat) (M:List ByteArray),i≤l0.length∧l0.length-i≤gg∧v18=.int .i64 (i:Int)∧z0_ (nN≤i)∧z0_ (ck_rules k (l0.drop i) i M=some (r1,r2,r3))∧z0_ (Below w.heap.size w wr)∧z0_ (wr.heap[w.heap.size]?=some (.cells #[.int .i64 0,.int .i64 0,.int .i64 0] 128 (0,0)))∧z0_ (SetS wr (w.heap.size+1) nN M))
 case atStart=>exact ⟨0,0,[],Nat.zero_le _,Nat.le_refl _,rfl,⟨Nat.le_refl _⟩,HY,HB,BR,SN⟩
 clear HY HB BR SN;obtain ⟨i,nN,M,hi,hgg,rfl,HN,HY,HB,BR,SN⟩:=hrel;obtain ⟨wa,hwa⟩:∃x,x=wr:=⟨_,rfl⟩;subst hwa;by_cases hlt:i<l0.length
 ·have hz:(i:Int)<(l0.length:Int):=by omega
  have hz0:(0:Int)≤(i:Int):=by omega
  have HI:z0_ (i≤16):=⟨by have:=L16.out;omega⟩
  have HS1:z0_ (w.heap.size+1<wa.heap.size):=⟨SN.out.lt⟩
  obtain ⟨ad,B2,d2,B3,d3,B4,d4,e0,hx0,hx1,hx2,hx3,hx4,hl2,hC2,hl3,hC3,hl4,hC4⟩:=at_T39 HR0.out (i:Int) hz0 hz;cases e0;replace hx0:=mx_ HB hx0;replace hx1:=mx_ HB hx1;replace hx2:=mx_ HB hx2;replace hx3:=mx_ HB hx3;replace hx4:=mx_ HB hx4;simp only [Int.toNat_natCast] at hx0 hx1 hx2 hx3 hx4;have HC2:=a_ hC2;have HC3:=a_ hC3;have HC4:=a_ hC4;have HL2:=a_ hl2;have HL3:=a_ hl3;have HL4:=a_ hl4;have hst:=ck_rules_cons k l0 i hlt M (r1,r2,r3) HY.out;clear hC2 hC3 hC4 hl2 hl3 hl4 HY;replace hst:(fun q:S39=>_) (z9_ l0 (i:Int))=some (r1,r2,r3):=hst
  generalize z9_ l0 (i:Int)=q at *;simp only [] at hst;by_cases hsz:q.f0.size≤maxLen
  rotate_left
  ·rw [if_neg hsz] at hst;cases hst
  rw [if_pos hsz] at hst;have HSZ:=a_ hsz;clear hsz;obtain ⟨s,hs,hst⟩:=Option.bind_eq_some_iff.1 hst;have HSF:=a_ hs;clear hs;go_wp2_with fail;refine (xq_.calls q.f0 q.f1 B2 d2 q.f2 B3 d3 q.f3 B4 d4 q.f4 s _ (Kd.xo_ HC2.out (z3_ HB.out _)) HL2.out (Kd.xo_ HC3.out (z3_ HB.out _)) HL3.out (Kd.xo_ HC4.out (z3_ HB.out _)) HL4.out HSF.out).mono ?_;rintro e w1 ⟨rfl,hd⟩;have HB1:=a_ (y7_ (z3_ HB.out (.cells #[.string q.f0,.int .i64 q.f1,.slice B2 q.f2.length d2,.slice B3 q.f3.length d3,.slice B4 q.f4.length d4] 39)) hd);have BR1:=a_ (zd_ (z5_ BR.out (.cells #[.string q.f0,.int .i64 q.f1,.slice B2 q.f2.length d2,.slice B3 q.f3.length d3,.slice B4 q.f4.length d4] 39)) hd);have BX1:=a_ (zd_ (wh_ wa (.cells #[.string q.f0,.int .i64 q.f1,.slice B2 q.f2.length d2,.slice B3 q.f3.length d3,.slice B4 q.f4.length d4] 39)) hd);have SN1:=a_ ((SetS.alloc SN.out (.cells #[.string q.f0,.int .i64 q.f1,.slice B2 q.f2.length d2,.slice B3 q.f3.length d3,.slice B4 q.f4.length d4] 39)).kept (y9_ hd none) (by simp));clear hd hx0 hx1 hx2 hx3 hx4;by_cases s0:0≤s
  ·rw [if_pos s0] at hst;have q0:decide (0≤s)=true:=decide_eq_true s0
   clear s0;cases hst;have hr0:=(z1_ BR1.out 0).trans rfl;have hr1:=(z1_ BR1.out 1).trans rfl;have hr2:=(z1_ BR1.out 2).trans rfl;have hf0:=zf_ BR1.out 0;have hf1:=zf_ BR1.out 1;have hf2:=zf_ BR1.out 2;simp only [List.getElem?_toArray,List.getElem?_cons_zero,List.getElem?_cons_succ] at hr0 hr1 hr2;go_wp2;refine bodyPost_ret (results_cell_row rfl _ _ w.heap.size 128 _ (0,0) _ rfl (ck_res BR1.out) Tryz.underlying128 rfl (by kernel_rfl)) rfl ⟨rfl,ck_below HB1.out (Nat.le_refl _)⟩
  rw [if_neg s0] at hst;have q0:decide (0≤s)=false:=decide_eq_false s0
  clear s0;have hxa0:=(z1_ BX1.out 0).trans rfl;have hxa1:=(z1_ BX1.out 1).trans rfl;have hxa2:=(z1_ BX1.out 2).trans rfl;have hxa3:=(z1_ BX1.out 3).trans rfl;have hxa4:=(z1_ BX1.out 4).trans rfl;simp only [List.getElem?_toArray,List.getElem?_cons_zero,List.getElem?_cons_succ] at hxa0 hxa1 hxa2 hxa3 hxa4;go_wp2_with fail;refine (impl_nameSet_has.calls (w.heap.size+1) nN M q.f0 _ SN1.out HSZ.out).mono ?_;rintro e w2 ⟨rfl,hd⟩;have HB2:=a_ (y7_ HB1.out hd);have BR2:=a_ (zd_ BR1.out hd);have BX2:=a_ (zd_ BX1.out hd);have SN2:=a_ (SN1.out.kept (y9_ hd none) (by simp));clear hd hxa0 hxa1 hxa2 hxa3 hxa4 HB1 BR1 BX1 SN1 q0;cases hm:memS q.f0 M with
  | true=>
   rw [if_pos hm] at hst;cases hst;have hr0:=(z1_ BR2.out 0).trans rfl;have hr1:=(z1_ BR2.out 1).trans rfl;have hr2:=(z1_ BR2.out 2).trans rfl;have hf0:=zf_ BR2.out 0;have hf1:=zf_ BR2.out 1;have hf2:=zf_ BR2.out 2;simp only [List.getElem?_toArray,List.getElem?_cons_zero,List.getElem?_cons_succ] at hr0 hr1 hr2;go_wp2;refine bodyPost_ret (results_cell_row rfl _ _ w.heap.size 128 _ (0,0) _ rfl (ck_res BR2.out) Tryz.underlying128 rfl (by kernel_rfl)) rfl ⟨rfl,ck_below HB2.out (Nat.le_refl _)⟩
  | false=>
  rw [if_neg (by rw [hm];decide)] at hst;obtain ⟨n,hn,hst⟩:=Option.bind_eq_some_iff.1 hst;have HPN:=a_ hn;clear hn;have hxb0:=(z1_ BX2.out 0).trans rfl;have hxb1:=(z1_ BX2.out 1).trans rfl;have hxb2:=(z1_ BX2.out 2).trans rfl;have hxb3:=(z1_ BX2.out 3).trans rfl;have hxb4:=(z1_ BX2.out 4).trans rfl;simp only [List.getElem?_toArray,List.getElem?_cons_zero,List.getElem?_cons_succ] at hxb0 hxb1 hxb2 hxb3 hxb4;go_wp2_with (at_mapUpdate;refine wpList_addS rfl _ _ _ 171 172 Tryz.underlying171 rfl (w.heap.size+1) nN M SN2.out (lt_maxLen (by have:=HN.out;have:=HI.out;omega)) rfl q.f0 HSZ.out rfl rfl ?_;intro w3 hs3 hg3;have HB3:z0_ (Below w.heap.size w w3):=⟨HB2.out.grown hg3 HB2.out.size (by intro z e;injection e with e;omega)⟩;have BR3:=a_ (zk_ BR2.out hg3 (by intro e;injection e with e;omega));have BX3:=a_ (zk_ BX2.out hg3 (by intro e;injection e with e;have:=HS1.out;omega));have SN3:=a_ hs3;have hxc0:=(z1_ BX3.out 0).trans rfl;have hxc1:=(z1_ BX3.out 1).trans rfl;have hxc2:=(z1_ BX3.out 2).trans rfl;have hxc3:=(z1_ BX3.out 3).trans rfl;have hxc4:=(z1_ BX3.out 4).trans rfl;simp only [List.getElem?_toArray,List.getElem?_cons_zero,List.getElem?_cons_succ] at hxc0 hxc1 hxc2 hxc3 hxc4;clear hs3 hg3);refine (zm_.calls k q.f0 q.f1 B2 d2 q.f2 B3 d3 q.f3 B4 d4 q.f4 n _ (Kd.xo_ HC2.out HB3.out) HL2.out (Kd.xo_ HC3.out HB3.out) HL3.out (Kd.xo_ HC4.out HB3.out) HL4.out HPN.out).mono ?_;rintro e w4 ⟨rfl,hd⟩;have HB4:=a_ (y7_ HB3.out hd);have BR4:=a_ (zd_ BR3.out hd);have BX4:=a_ (zd_ BX3.out hd);have SN4:=a_ (SN3.out.kept (y9_ hd none) (by simp));clear hd hxb0 hxb1 hxb2 hxb3 hxb4 hxc0 hxc1 hxc2 hxc3 hxc4 HB2 BR2 BX2 SN2 HB3 BR3 BX3 SN3 hm;by_cases n1:n<1
  ·rw [if_pos (Or.inl n1)] at hst;cases hst;have q1:decide (n<1)=true:=decide_eq_true n1
   clear n1;have hr0:=(z1_ BR4.out 0).trans rfl;have hr1:=(z1_ BR4.out 1).trans rfl;have hr2:=(z1_ BR4.out 2).trans rfl;have hf0:=zf_ BR4.out 0;have hf1:=zf_ BR4.out 1;have hf2:=zf_ BR4.out 2;simp only [List.getElem?_toArray,List.getElem?_cons_zero,List.getElem?_cons_succ] at hr0 hr1 hr2;go_wp2;refine bodyPost_ret (results_cell_row rfl _ _ w.heap.size 128 _ (0,0) _ rfl (ck_res BR4.out) Tryz.underlying128 rfl (by kernel_rfl)) rfl ⟨rfl,ck_below HB4.out (Nat.le_refl _)⟩
  have q1:decide (n<1)=false:=decide_eq_false n1
  by_cases n3:3<n
  ·rw [if_pos (Or.inr n3)] at hst;cases hst;have q3:decide (3<n)=true:=decide_eq_true n3
   clear n1 n3;have hr0:=(z1_ BR4.out 0).trans rfl;have hr1:=(z1_ BR4.out 1).trans rfl;have hr2:=(z1_ BR4.out 2).trans rfl;have hf0:=zf_ BR4.out 0;have hf1:=zf_ BR4.out 1;have hf2:=zf_ BR4.out 2;simp only [List.getElem?_toArray,List.getElem?_cons_zero,List.getElem?_cons_succ] at hr0 hr1 hr2;go_wp2;refine bodyPost_ret (results_cell_row rfl _ _ w.heap.size 128 _ (0,0) _ rfl (ck_res BR4.out) Tryz.underlying128 rfl (by kernel_rfl)) rfl ⟨rfl,ck_below HB4.out (Nat.le_refl _)⟩
  rw [if_neg (by omega)] at hst;have q3:decide (3<n)=false:=decide_eq_false n3
  clear n1 n3;obtain ⟨c,hc,hst⟩:=Option.bind_eq_some_iff.1 hst;have HCF:=a_ hc;clear hc;have hxd0:=(z1_ BX4.out 0).trans rfl;have hxd1:=(z1_ BX4.out 1).trans rfl;have hxd2:=(z1_ BX4.out 2).trans rfl;have hxd3:=(z1_ BX4.out 3).trans rfl;have hxd4:=(z1_ BX4.out 4).trans rfl;simp only [List.getElem?_toArray,List.getElem?_cons_zero,List.getElem?_cons_succ] at hxd0 hxd1 hxd2 hxd3 hxd4;go_wp2_with fail;refine (xc_.calls q.f0 q.f1 B2 d2 q.f2 B3 d3 q.f3 B4 d4 q.f4 c _ (Kd.xo_ HC2.out HB4.out) HL2.out (Kd.xo_ HC3.out HB4.out) HL3.out (Kd.xo_ HC4.out HB4.out) HL4.out HCF.out).mono ?_;rintro e w5 ⟨rfl,hd⟩;have HB5:=a_ (y7_ HB4.out hd);have BR5:=a_ (zd_ BR4.out hd);have BX5:=a_ (zd_ BX4.out hd);have SN5:=a_ (SN4.out.kept (y9_ hd none) (by simp));clear hd hxd0 hxd1 hxd2 hxd3 hxd4 HB4 BR4 BX4 SN4 q1 q3;by_cases c1:0≤c
  ·rw [if_pos c1] at hst;have q0:decide (0≤c)=true:=ct_ c1
   clear c1;cases hst;have hr0:=(z1_ BR5.out 0).trans rfl;have hr1:=(z1_ BR5.out 1).trans rfl;have hr2:=(z1_ BR5.out 2).trans rfl;have hf0:=zf_ BR5.out 0;have hf1:=zf_ BR5.out 1;have hf2:=zf_ BR5.out 2;simp only [List.getElem?_toArray,List.getElem?_cons_zero,List.getElem?_cons_succ] at hr0 hr1 hr2;go_wp2;refine bodyPost_ret (results_cell_row rfl _ _ w.heap.size 128 _ (0,0) _ rfl (ck_res BR5.out) Tryz.underlying128 rfl (by kernel_rfl)) rfl ⟨rfl,ck_below HB5.out (Nat.le_refl _)⟩
  rw [if_neg c1] at hst;have q0:decide (0≤c)=false:=cf_ c1
  clear c1;by_cases hln:q.f2.length≤6∧q.f4.length≤8
  rotate_left
  ·rw [if_neg hln] at hst;cases hst
  rw [if_pos hln] at hst;have HLN:=a_ hln;clear hln;obtain ⟨m,hm⟩:∃m,ck_acts n q.f2.length q.f4 0=m:=⟨_,rfl⟩;rw [hm] at hst;have HM:z0_ (ck_acts n q.f2.length (q.f4.drop 0) 0=m):=⟨hm⟩
  have HST:=a_ hst;clear hm hst;have hxe0:=(z1_ BX5.out 0).trans rfl;have hxe1:=(z1_ BX5.out 1).trans rfl;have hxe2:=(z1_ BX5.out 2).trans rfl;have hxe3:=(z1_ BX5.out 3).trans rfl;have hxe4:=(z1_ BX5.out 4).trans rfl;simp only [List.getElem?_toArray,List.getElem?_cons_zero,List.getElem?_cons_succ] at hxe0 hxe1 hxe2 hxe3 hxe4;go_wp2;go_loopg [60] q.f4.length (fun gg v60 wr=>∃j:Nat,j≤q.f4.length∧q.f4.length-j≤gg∧v60=.int .i64 (j:Int)∧z0_ (ck_acts n q.f2.length (q.f4.drop j) j=m)∧z0_ (Below w.heap.size w wr)∧z0_ (wr.heap[w.heap.size]?=some (.cells #[.int .i64 0,.int .i64 0,.int .i64 0] 128 (0,0)))∧z0_ (wr.heap[wa.heap.size]?=some (.cells #[.string q.f0,.int .i64 q.f1,.slice B2 q.f2.length d2,.slice B3 q.f3.length d3,.slice B4 q.f4.length d4] 39 (0,0)))∧z0_ (SetS wr (w.heap.size+1) (nN+1) (q.f0::M)))
  case atStart=>exact ⟨0,Nat.zero_le _,Nat.le_refl _,rfl,HM,HB5,BR5,BX5,SN5⟩
  clear HM HB5 BR5 BX5 SN5 hxe0 hxe1 hxe2 hxe3 hxe4 q0;obtain ⟨j,hj,hggj,rfl,HM,HB6,BR6,BX6,SN6⟩:=hrel;by_cases hltj:j<q.f4.length
  ·have hzj:(j:Int)<(q.f4.length:Int):=by omega
   have hzj0:(0:Int)≤(j:Int):=by omega
   have HJ8:z0_ (j≤8):=⟨by have:=HLN.out.2;omega⟩
   obtain ⟨ad7,A7,c7,e0,hy0,hy1,hy2,hy3,hl7,hC7⟩:=at_T98 HC4.out (j:Int) hzj0 hzj;cases e0;replace hy0:=(HB6.out.cell (World.block_lt_of_cell? w _ hy0)).trans hy0;replace hy1:=(HB6.out.cell (World.block_lt_of_cell? w _ hy1)).trans hy1;replace hy2:=(HB6.out.cell (World.block_lt_of_cell? w _ hy2)).trans hy2;replace hy3:=(HB6.out.cell (World.block_lt_of_cell? w _ hy3)).trans hy3;simp only [Int.toNat_natCast] at hy0 hy1 hy2 hy3;have hac:=ck_acts_cons n q.f2.length q.f4 j hltj m HM.out;clear hl7 hC7 HM;generalize y3_ q.f4 (j:Int)=a at *;by_cases k2:a.f0=2
   ·have p2:(a.f0==2)=true:=by simpa using k2
    have K2:=a_ k2;clear k2;by_cases b1:a.f1<1
    ·have p4:decide (a.f1<1)=true:=decide_eq_true b1
     rw [if_pos ⟨(Or.inl K2.out),Or.inl b1⟩] at hac;exact u049_0
    have p4:decide (a.f1<1)=false:=decide_eq_false b1
    by_cases b2:n<a.f1
    ·have p5:decide (n<a.f1)=true:=decide_eq_true b2
     rw [if_pos ⟨(Or.inl K2.out),Or.inr b2⟩] at hac;exact u049_0
    exact u049_1
   ·have p2:(a.f0==2)=false:=by simpa using k2
    by_cases k3:a.f0=3
    ·have p3:(a.f0==3)=true:=by simpa using k3
     have K3:=a_ k3;clear k3 k2;by_cases b1:a.f1<1
     ·have p4:decide (a.f1<1)=true:=decide_eq_true b1
      rw [if_pos ⟨(Or.inr K3.out),Or.inl b1⟩] at hac;exact u049_0
     have p4:decide (a.f1<1)=false:=decide_eq_false b1
     by_cases b2:n<a.f1
     ·have p5:decide (n<a.f1)=true:=decide_eq_true b2
      rw [if_pos ⟨(Or.inr K3.out),Or.inr b2⟩] at hac;exact u049_0
     exact u049_1
    ·have p3:(a.f0==3)=false:=by simpa using k3
     rw [if_neg (by intro z;rcases z.1 with z|z;exact k2 z;exact k3 z)] at hac;have HM2:=a_ hac;clear hac k2 k3;go_wp2;go_roundg (q.f4.length-(j+1))
     case measure=>omega
     case rel=>exact u049_2
  ·have hjl:j=q.f4.length:=by omega
   have e0:=HM.out;rw [hjl,List.drop_length] at e0;unfold ck_acts at e0
   have h2:=HST.out;rw [←e0,if_pos rfl] at h2;have HY2:=a_ h2;clear e0 h2 hjl;go_wp2;go_roundg (l0.length-(i+1))
   case measure=>omega
   case rel=>exact ⟨i+1,nN+1,q.f0::M,by omega,by omega,by rw [show wrap64 ((i:Int)+1)=((i+1:Nat):Int) by unfold wrap64;have:=HI.out;omega],⟨by have:=HN.out;omega⟩,HY2,HB6,BR6,SN6⟩
 ·have hil:i=l0.length:=by omega
  subst hil;have e0:=HY.out;rw [List.drop_length] at e0;unfold ck_rules at e0
  cases e0;clear HY;have hr0:=(z1_ BR.out 0).trans rfl;have hr1:=(z1_ BR.out 1).trans rfl;have hr2:=(z1_ BR.out 2).trans rfl;have hf0:=zf_ BR.out 0;have hf1:=zf_ BR.out 1;have hf2:=zf_ BR.out 2;simp only [List.getElem?_toArray,List.getElem?_cons_zero,List.getElem?_cons_succ] at hr0 hr1 hr2;go_wp2;refine bodyPost_ret (results_cell_row rfl _ _ w.heap.size 128 _ (0,0) _ rfl (ck_res BR.out) Tryz.underlying128 rfl (by kernel_rfl)) rfl ⟨rfl,ck_below HB.out (Nat.le_refl _)⟩
def wq_.f (k:Nat) (l0:List (S39)):Option (Bool):=(xz_.f k l0).bind fun y=>(some (y.1==0))
theorem wq_.mono:∀a0 k,LeO (wq_.f k a0) (wq_.f (k+1) a0):=by
 intro a0 k;unfold wq_.f
 exact LeO.bind (xz_.mono _ _) (fun _=>LeO.refl _)
set_option maxHeartbeats 8000000 in
set_option maxRecDepth 100000 in
theorem wq_.calls (k:Nat) (A0:Option Addr) (c0:Nat) (l0:List (S39)) (r:Bool) (w:World) (hr0:Kd.C k39 w A0 l0.length l0) (hc0:l0.length≤c0) (h:wq_.f k l0=some r):
  Calls Tryz.prog 26 #[.slice A0 l0.length c0] w fun e w'=>e=.returned (.bool r)∧Below w.heap.size w w':=by
 unfold wq_.f at h
 obtain ⟨⟨t1,t2,t3⟩,h1,h⟩:=Option.bind_eq_some_iff.1 h;obtain rfl:=Option.some.inj h;have H1:=a_ h1;have HR:=a_ hr0;have HC:=a_ hc0;clear h h1 hr0 hc0;have hf:∀W:World,Sem.run Tryz.prog (Instr.field 128 (.agg #[.int .i64 t1,.int .i64 t2,.int .i64 t3]) 0) W=.ok (.int .i64 t1) W:=fun W=>by kernel_rfl
 go_enter Tryz.func26,Tryz.ntmps26;go_wp2_with fail;refine (xz_.calls k _ _ l0 t1 t2 t3 _ HR.out HC.out H1.out).mono ?_;rintro e w1 ⟨rfl,hb⟩;have HB:=a_ hb;clear hb;go_wp2;go_ret;exact ⟨rfl,HB.out⟩
end Go.Proofs.YtahambloheoebaaGreatDoor.P
namespace Go.Proofs.YtahambloheoebaaGreatDoorX
open Go Go.RowKit Go.Maps Go.ChangeMaps Go.WideMaps
def lookS:List (ByteArray×Int)→ByteArray→Option Int
 | [],_=>none
 | (t,v)::r,s=>if t=s then some v else lookS r s
theorem zeroI (w:World):(zeroValue 3).run Tryz.prog w=.ok (.int .i64 0) w:=by kernel_rfl
def MapS (w:World) (b n:Nat) (ss:List (ByteArray×Int)):Prop:=
 ∃D:DataW Unit,w.ownsMap Tryz.prog 9 (plainElem Tryz.prog 3) b n D∧IsMap D∧
  ∀s:ByteArray,has D (.string s.data.toList)=(lookS ss s).isSome∧D.atKey (.string s.data.toList) (.lit (.int .i64 0))=.lit (.int .i64 ((lookS ss s).getD 0))
theorem MapS_made (w:World):MapS (w.alloc (.map #[] 0)) w.heap.size 0 []:=
 ⟨.map [],World.ownsMap_made w _ _ _,isMap_empty,fun _=>⟨rfl,rfl⟩⟩
theorem MapS.kept {w w':World} {b n:Nat} {ss:List (ByteArray×Int)} {row:Option Nat} (h:MapS w b n ss) (hg:w.grownBy w' row) (hne:some b≠row):MapS w' b n ss:=by
 obtain ⟨D,h1,h2,h3⟩:=h;exact ⟨D,h1.kept hg hne,h2,h3⟩
theorem MapS.alloc {w:World} {b n:Nat} {ss:List (ByteArray×Int)} (h:MapS w b n ss) (o:Obj):MapS (w.alloc o) b n ss:=by
 obtain ⟨D,h1,h2,h3⟩:=h;exact ⟨D,h1.alloc o,h2,h3⟩
theorem MapS.drew {w:World} {b n:Nat} {ss:List (ByteArray×Int)} (h:MapS w b n ss):MapS w.drew b n ss:=h
theorem MapS.setCell {w:World} {b n:Nat} {ss:List (ByteArray×Int)} (h:MapS w b n ss) {a:Addr} (ha:b≠a.block) (u:Value):MapS (w.setCell a u) b n ss:=by
 obtain ⟨D,h1,h2,h3⟩:=h;exact ⟨D,h1.setCell ha u,h2,h3⟩
theorem MapS.lt {w:World} {b n:Nat} {ss:List (ByteArray×Int)} (h:MapS w b n ss):b<w.heap.size:=by
 obtain ⟨D,h1,_⟩:=h;exact h1.lt
theorem wpList_lookS {w:World} {ops:Array Oper} {rest:List Oper} {o:Oper} {a:Act} {Q:Exit→Act→World→Prop} (hg:o.guard=none) (m x:Operand)
  (hop:o.op=Op.lookup 131 m x true) (b n:Nat) (ss:List (ByteArray×Int)) (h:MapS w b n ss) (hm:a.eval m=.map (some b)) (s:ByteArray) (hs:s.size≤maxLen) (hx:a.eval x=.string s)
  (hK:wpList Tryz.prog ops Q rest (a.put o.dst (.tuple #[.int .i64 ((lookS ss s).getD 0),.bool (lookS ss s).isSome])) w):
  wpList Tryz.prog ops Q (o::rest) a w:=by
 obtain ⟨D,h1,h2,h3⟩:=h;refine wpList_lookup_own_ok_int w hg m x _ hop _ _ .i64 lawS Tryz.underlying131 Tryz.underlying3 (zeroI _) b n D hm h1 _ _ hx (keyOf_string_mk Tryz.underlying9 hs) ?_;intro c hc _;rw [(h3 s).2] at hc;injection hc with hc
 injection hc with _ hc
 rw [(h3 s).1,←hc];exact hK
theorem wpList_putS {w:World} {ops:Array Oper} {rest:List Oper} {o:Oper} {a:Act} {Q:Exit→Act→World→Prop} (hg:o.guard=none) (m x v:Operand)
  (hop:o.op=Op.mapUpdate 131 m x v) (b n:Nat) (ss:List (ByteArray×Int)) (h:MapS w b n ss) (hn:n<maxLen) (hm:a.eval m=.map (some b)) (s:ByteArray) (hs:s.size≤maxLen) (hx:a.eval x=.string s)
  (c:Int) (hc:(Lit.int .i64 c).wf=true) (hv:a.eval v=.int .i64 c)
  (hK:∀w',MapS w' b (n+1) ((s,c)::ss)→w.grownBy w' (some b)→wpList Tryz.prog ops Q rest (a.put o.dst undef) w'):
  wpList Tryz.prog ops Q (o::rest) a w:=by
 obtain ⟨D,h1,h2,h3⟩:=h;refine wpList_mapUpdate_own w hg m x v _ hop _ _ lawS Tryz.underlying131 _ b n D hm h1 hn _ _ _ hx hv (keyOf_string_mk Tryz.underlying9 hs) _ [] (plainElem_int Tryz.underlying3 hc) ?_;intro w' h4 h5;refine hK w' ⟨_,h4,?_,fun t=>?_⟩ h5
 ·obtain ⟨es,rfl⟩:=h2;exact ⟨_,rfl⟩
 ·by_cases e:s=t
  ·subst e;simp only [lookS,if_true];exact ⟨has_put_same h2 (by trivial) _,atKey_put_same h2 (by trivial) _ _⟩
  ·simp only [lookS,if_neg e];rw [has_put_other (data_ne (Ne.symm e)),atKey_put_other (data_ne (Ne.symm e))];exact h3 t
end Go.Proofs.YtahambloheoebaaGreatDoorX
namespace Go.Proofs.YtahambloheoebaaGreatDoor.P
open Go.Proofs.YtahambloheoebaaGreatDoorX
open Go.RowKit Go.Proofs.YtahambloheoebaaGreatDoorW.PrintWords Go.Proofs.YtahambloheoebaaGreatDoorW.PrintLast Go.Proofs.YtahambloheoebaaGreatDoorW.PrintMore
attribute [local go_sem] ww_ wx_ max_two min_two wc_ wb_ wu_ wv_
open Go.Proofs.YtahambloheoebaaGreatDoorX in
def aoStep (st:List (ByteArray×Int)×List S82) (i:Int) (t:S86):List (ByteArray×Int)×List S82:=
 if t.f0=0 then st
 else if t.f2.toList.isEmpty=true then (st.1,st.2++[⟨i,if t.f0=3 then t.f1 else 1,-1,t.f3⟩])
 else if (lookS st.1 t.f2).isSome=true then (st.1,st.2++[⟨i,if t.f0=3 then t.f1 else 1,(lookS st.1 t.f2).getD 0,⟨0,0,⟨#[]⟩⟩⟩])
 else if t.f0=2 then ((t.f2,i)::st.1,st.2) else st
def w7_ (ts:List S86):Nat→List (ByteArray×Int)×List S82
 | 0=>([],[])
 | n+1=>aoStep (w7_ ts n) n (z6_ ts n)
def impl_AlphaOf.f (a0_0:Bool) (a0_1:ByteArray) (l0_2:List S86):Option (ByteArray×Int×List S82):=
 some (if wo_ a0_1 l0_2=true then (a0_1,(l0_2.length:Int),(w7_ l0_2 l0_2.length).2) else (⟨#[]⟩,0,[]))
theorem aoRun_length (ts:List S86) (n:Nat):(w7_ ts n).2.length≤n:=by
 induction n with
 | zero=>exact Nat.le_refl _
 | succ n ih=>
  simp only [w7_,aoStep];repeat' split
  all_goals first|omega|(simp only [List.length_append,List.length_singleton];omega)|(simp;omega)
theorem goodTerm_small (t:S86) (h:ym_ t=true):t.f2.size≤maxLen:=by
 have e0:t.f2.toList.isEmpty=true→t.f2.size=0:=by
  intro e;rw [ByteArray.toList_eq,List.isEmpty_iff] at e;have:=congrArg List.length e
  rw [Array.length_toList] at this;simpa using this
 have e1:Go.Proofs.YtahambloheoebaaGreatDoorX.xm_ t.f2=true→t.f2.size≤maxLen:=by
  intro e;unfold Go.Proofs.YtahambloheoebaaGreatDoorX.xm_ at e
  split at e
  ·cases e
  split at e
  ·cases e
  unfold maxLen
  omega
 unfold ym_ at h
 split at h
 ·simp only [Bool.and_eq_true] at h;rw [e0 h.2.1];exact Nat.zero_le _
 split at h
 ·simp only [Bool.and_eq_true] at h;rw [e0 h.1.2];exact Nat.zero_le _
 split at h
 ·simp only [Bool.and_eq_true] at h;exact e1 h.2
 split at h
 ·split at h
  ·cases h
  split at h
  ·cases h
  split at h
  ·rename_i e
   rw [e0 e];exact Nat.zero_le _
  ·simp only [Bool.and_eq_true] at h;exact e1 h.1
 ·cases h
open Go.Proofs.YtahambloheoebaaGreatDoorX in
set_option maxHeartbeats 8000000 in
set_option maxRecDepth 100000 in
theorem impl_AlphaOf.calls (a0_0:Bool) (a0_1:ByteArray) (A0_2:Option Addr) (c0_2:Nat) (l0_2:List (S86)) (r1:ByteArray) (r2:Int) (r3:List (S82)) (w:World) (hr0_2:Kd.C k86 w A0_2 l0_2.length l0_2) (hc0_2:l0_2.length≤c0_2) (h:impl_AlphaOf.f a0_0 a0_1 l0_2=some (r1,r2,r3)):
  Calls Tryz.prog 27 #[.agg #[.bool a0_0,.string a0_1,.slice A0_2 l0_2.length c0_2]] w fun e w'=>∃v2_:Value,e=.returned (.agg #[.string r1,.int .i64 r2,v2_])∧Kd.R k82 82 w' w.heap.size (fun _=>True) v2_ r3∧Below w.heap.size w w':=by
 have h:=Option.some.inj h;have hu0:=Tryz.underlying42;have hu1:=Tryz.underlying50;have hu2:=Tryz.underlying86;have hu3:=Tryz.underlying82;have hu4:=Tryz.underlying80;have HB:=a_ (Below.refl w.heap.size w);have HR:=a_ hr0_2;have HC:=a_ hc0_2;clear hr0_2 hc0_2;cases hg:wo_ a0_1 l0_2 with
 | false=>
  rw [hg,if_neg (by decide)] at h;cases h;have HG:=a_ (show xn_.f a0_0 a0_1 l0_2=some false by unfold xn_.f;rw [hg]);clear hg;go_enter Tryz.func27,Tryz.ntmps27;go_wp2_with (go_at_call 64;refine (xn_.calls a0_0 a0_1 _ _ l0_2 _ _ (Kd.xo_ HR.out (by repeat (first|exact HB.out|apply z3_))) HC.out HG.out).mono ?_;rintro e w1 ⟨rfl,hd⟩;obtain ⟨hc1,hf1⟩:=cellsBelow hd rfl;have hsz:w.heap.size+2≤w1.heap.size:=(by have hs0:=hd.size;simpa using hs0);have hszl:w.heap.size<w1.heap.size:=(by omega);have hszn:w.heap.size≠w1.heap.size:=(by omega);have hszm:w.heap.size≠w1.heap.size+1:=(by omega))
  have hb2:w1.heap[w.heap.size+1]?=some (.cells #[.string (⟨#[]⟩:ByteArray),.int .i64 0,.slice none 0 0] 50 (0,0)):=by
   have:=zd_ (wh_ (w.alloc (Obj.cells #[.bool a0_0,.string a0_1,.slice A0_2 l0_2.length c0_2] 42)) (Obj.cells #[.string (⟨#[]⟩:ByteArray),.int .i64 0,.slice none 0 0] 50)) hd
   simpa using this
  have hB:Below w.heap.size w w1:=Below.trans (by repeat (first|exact HB.out|apply z3_)) (hd.mono (by first|(simp;done)|(simp;omega)))
  refine bodyPost_ret (results_cell_row rfl _ _ (w.heap.size+1) 50 #[.string (⟨#[]⟩:ByteArray),.int .i64 0,.slice none 0 0] (0,0) _ rfl (wt_ (wt_ (wt_ hb2 0 _ rfl) 1 _ rfl) 2 _ rfl) Tryz.underlying50 rfl (by kernel_rfl)) rfl ?_;exact ⟨_,rfl,Kd.R_nil _ _ _ _ _,zu_ (zu_ (zu_ hB (by omega)) (by omega)) (by omega)⟩
 | true=>
  rw [hg,if_pos rfl] at h;cases h;have HG:=a_ (show xn_.f a0_0 a0_1 l0_2=some true by unfold xn_.f;rw [hg])
  have hlen:l0_2.length≤6:=by
   unfold wo_ at hg
   simp only [Bool.and_eq_true,decide_eq_true_eq] at hg;exact hg.2.1
  have hall:∀i:Nat,i<l0_2.length→(z6_ l0_2 i).f2.size≤maxLen:=by
   intro i hi;apply goodTerm_small
   unfold wo_ at hg
   simp only [Bool.and_eq_true,List.all_eq_true] at hg
   have e:z6_ l0_2 (i:Int)=l0_2[i]:=by
    unfold z6_
    simp [hi]
   rw [e];exact hg.2.2 _ (List.getElem_mem hi)
  clear hg;have HA:=a_ hall;clear hall;go_enter Tryz.func27,Tryz.ntmps27;have hmm:=@run_makeMap Tryz.prog;go_wp2_with (go_at_call 64;refine (xn_.calls a0_0 a0_1 _ _ l0_2 _ _ (Kd.xo_ HR.out (by repeat (first|exact HB.out|apply z3_))) HC.out HG.out).mono ?_;rintro e w1 ⟨rfl,hd⟩;obtain ⟨hc1,hf1⟩:=cellsBelow hd rfl;have hsz:w.heap.size+2≤w1.heap.size:=(by have hs0:=hd.size;simpa using hs0);have hszl:w.heap.size<w1.heap.size:=(by omega);have hszn:w.heap.size≠w1.heap.size:=(by omega);have hszm:w.heap.size≠w1.heap.size+1:=(by omega))
  have hb2:w1.heap[w.heap.size+1]?=some (.cells #[.string (⟨#[]⟩:ByteArray),.int .i64 0,.slice none 0 0] 50 (0,0)):=by
   have:=zd_ (wh_ (w.alloc (Obj.cells #[.bool a0_0,.string a0_1,.slice A0_2 l0_2.length c0_2] 42)) (Obj.cells #[.string (⟨#[]⟩:ByteArray),.int .i64 0,.slice none 0 0] 50)) hd
   simpa using this
  have hB:Below w.heap.size w w1:=Below.trans (by repeat (first|exact HB.out|apply z3_)) (hd.mono (by first|(simp;done)|(simp;omega)))
  have hsz:w.heap.size+2≤w1.heap.size:=by have:=hd.size;simpa using this
  have B2:=a_ hb2;have BW:=a_ hB;clear hb2 hB hd hc1 hf1;go_loopg [24] l0_2.length (fun gg s24 wr=>∃(i n:Nat) (va:Value),i≤l0_2.length∧l0_2.length-i≤gg∧s24=.int .i64 i∧n≤i∧z0_ (wr.heap[w.heap.size+1]?=some (.cells #[.string (⟨#[]⟩:ByteArray),.int .i64 0,.slice none 0 0] 50 (0,0)))∧z0_ (wr.heap[w1.heap.size]?=some (.cells #[.string a0_1,.int .i64 (l0_2.length:Int),va] 50 (0,0)))∧z0_ (Kd.R k82 82 wr w.heap.size (fun k=>k≠w1.heap.size+1) va (w7_ l0_2 i).2)∧z0_ (MapS wr (w1.heap.size+1) n (w7_ l0_2 i).1)∧z0_ (Below w.heap.size w wr))
  case atStart=>
   refine ⟨0,0,_,Nat.zero_le _,Nat.le_refl _,rfl,Nat.le_refl _,⟨?_⟩,⟨?_⟩,⟨Kd.R_nil _ _ _ _ _⟩,⟨?_⟩,⟨?_⟩⟩
   ·exact z5_ (z5_ B2.out _) _
   ·exact z5_ (wh_ _ _) _
   ·have hm:=MapS_made (w1.alloc (Obj.cells #[.string a0_1,.int .i64 (l0_2.length:Int),.slice none 0 0] 50));have es:(w1.alloc (Obj.cells #[.string a0_1,.int .i64 (l0_2.length:Int),.slice none 0 0] 50)).heap.size=w1.heap.size+1:=by simp
    rw [es] at hm;exact hm
   ·exact z3_ (z3_ BW.out _) _
  obtain ⟨i,n,va,hi,hgg,rfl,hn,BK2,BK3,HO,HM,HB1⟩:=hrel;by_cases hlt:i<l0_2.length
  ·have hsv:=HA.out i hlt;have hml:=HM.out.lt;obtain ⟨ad,e0,hx0,hx1,hx2,hx3,hx4,hx5⟩:=at_T86 HR.out (i:Int) (by omega) (by omega);cases e0;replace hx0:=(HB1.out.cell (World.block_lt_of_cell? w _ hx0)).trans hx0;replace hx1:=(HB1.out.cell (World.block_lt_of_cell? w _ hx1)).trans hx1;replace hx2:=(HB1.out.cell (World.block_lt_of_cell? w _ hx2)).trans hx2;replace hx3:=(HB1.out.cell (World.block_lt_of_cell? w _ hx3)).trans hx3;replace hx4:=(HB1.out.cell (World.block_lt_of_cell? w _ hx4)).trans hx4;replace hx5:=(HB1.out.cell (World.block_lt_of_cell? w _ hx5)).trans hx5;have hz:(i:Int)<(l0_2.length:Int):=by omega
   have hz0:(0:Int)≤(i:Int):=by omega
   have hnat:(i:Int).toNat=i:=by omega
   simp only [Int.toNat_natCast] at hx0 hx1 hx2 hx3 hx4 hx5;generalize ht:z6_ l0_2 (i:Int)=t at *;by_cases q0:t.f0=0
   ·have p0:(t.f0==0)=true:=beq_iff_eq.mpr q0
    have p3:(t.f0==3)=false:=by rw [q0];rfl
    have hrun:w7_ l0_2 (i+1)=w7_ l0_2 i:=by simp only [w7_,aoStep];rw [ht,if_pos q0]
    have HRUN:=a_ hrun;clear hrun;go_wp2_with (at_lookup;refine wpList_lookS rfl _ _ rfl (w1.heap.size+1) n (w7_ l0_2 i).1 (MapS.alloc HM.out _) rfl t.f2 hsv rfl ?_);go_roundg (l0_2.length-(i+1))
    case measure=>omega
    case rel=>exact ⟨i+1,n,va,by omega,by omega,by go_num,by omega,⟨z5_ BK2.out _⟩,⟨z5_ BK3.out _⟩,⟨by rw [HRUN.out];exact Kd.R_alloc HO.out _⟩,⟨by rw [HRUN.out];exact MapS.alloc HM.out _⟩,⟨z3_ HB1.out _⟩⟩
   ·have p0:(t.f0==0)=false:=beq_eq_false_iff_ne.mpr q0
    have hal:=aoRun_length l0_2 i;have hwr:=HB1.out.size;have hwi:(Lit.int .i64 (i:Int)).wf=true:=by have h9:=wrap64_wf (i:Int);rwa [show wrap64 (i:Int)=i by unfold wrap64;omega] at h9
    have hb3l:=blk_lt BK3.out;have HN:=a_ (show w.heap.size+1≠w1.heap.size by omega);have HN2:=a_ (show w1.heap.size+1≠w1.heap.size by omega);have HN3:=a_ (show w.heap.size≤w1.heap.size by omega);have hb2l:=blk_lt BK2.out;obtain ⟨Ao,co,eo⟩:=Kd.yv_ HO.out;subst eo;have hu0':=z1_ BK3.out 0;have hu1':=z1_ BK3.out 1;have hu2':=z1_ BK3.out 2;simp only [List.getElem?_toArray,List.getElem?_cons_zero,List.getElem?_cons_succ] at hu0' hu1' hu2';by_cases q3:t.f0=3
    ·have p3:(t.f0==3)=true:=beq_iff_eq.mpr q3
     cases e2:t.f2.toList.isEmpty with
     | true=>
      have hrun:w7_ l0_2 (i+1)=((w7_ l0_2 i).1,(w7_ l0_2 i).2++[(⟨(i:Int),t.f1,-1,t.f3⟩:S82)]):=by simp only [w7_,aoStep];rw [ht];simp [*]
      have HRUN:=a_ hrun;clear hrun;go_wp2_with (first|(at_lookup;refine wpList_lookS rfl _ _ rfl (w1.heap.size+1) n (w7_ l0_2 i).1 (MapS.alloc HM.out _) rfl t.f2 hsv rfl ?_)|(at_builtin;refine Kd.R_append k82 (w0:=w) w.heap.size rfl (.tmp 50) (.tmp 56) 48 82 (.agg #[(.int .i64 0),(.int .i64 0),(.int .i64 0),(.int .i64 0),(.int .i64 0),(.string ⟨#[]⟩)]) 56 rfl Tryz.underlying48 info82 rfl (by decide) (by omega) (.slice Ao (w7_ l0_2 i).2.length co) (w7_ l0_2 i).2 (⟨(i:Int),t.f1,-1,t.f3⟩:S82) [.int .i64 (i:Int),.int .i64 t.f1,.int .i64 (-1),.int .i64 t.f3.f0,.int .i64 t.f3.f1,.string t.f3.f2] (fun k=>k≠w1.heap.size+1) (fun _=>False) rfl (by first|rfl|(show Value.slice (some ⟨wr.heap.size+1,0,none⟩) 1 1=_;simp)) ?aP (fun _ hk=>hk.elim) ?aF ?aO ?aB ?aS ?aL ?_;(case aP=>exact k82_mkM _ _ _ (⟨(i:Int),t.f1,-1,t.f3⟩:S82));(case aF=>intro k hk;simp at hk;omega);(case aO=>exact Kd.R_alloc HO.out _);(case aB=>exact z3_ HB1.out _);(case aS=>exact zw_ (z3_ HB1.out _));(case aL=>omega);intro v2 wx ho hb hg2 hat;have B3':=a_ (zk_ (z5_ BK3.out _) hg2 (Kd.R_ne HO.out BK3.out (by decide)));have B2':=a_ (zk_ (z5_ BK2.out _) hg2 (Kd.R_ne HO.out BK2.out (by decide)));have M':=a_ ((MapS.alloc HM.out _).kept hg2 (Kd.R_away HO.out (fun _ hk=>hk)));have O':=a_ ho;have HB':=a_ hb;clear ho hb hg2 hat;obtain ⟨Ao2,co2,eo2⟩:=Kd.yv_ O'.out;subst eo2;rw [List.length_append,List.length_singleton] at O';have hv0:=(z1_ B3'.out 0).trans rfl;have hv1:=(z1_ B3'.out 1).trans rfl;have hv2:=(z1_ B3'.out 2).trans rfl;have hy0:=zf_ B3'.out 0;have hy1:=zf_ B3'.out 1;have hy2:=zf_ B3'.out 2));go_roundg (l0_2.length-(i+1))
      case measure=>omega
      case rel=>exact ⟨i+1,n,_,by omega,by omega,by go_num,by omega,⟨blk_far B2'.out HN.out _⟩,⟨wt_ B3'.out 2 _ rfl⟩,⟨by rw [HRUN.out];exact Kd.yk_ (Kd.R_far (p:=⟨w1.heap.size,2,none⟩) (Kd.R_types O'.out B3'.out (by decide)) (fun _ hk=>hk.2) _) (fun _ hk=>hk.1)⟩,⟨by rw [HRUN.out];exact MapS.setCell M'.out HN2.out _⟩,⟨zu_ HB'.out HN3.out⟩⟩
     | false=>
      cases hL:(lookS (w7_ l0_2 i).1 t.f2).isSome with
      | true=>
       have hrun:w7_ l0_2 (i+1)=((w7_ l0_2 i).1,(w7_ l0_2 i).2++[(⟨(i:Int),t.f1,((lookS (w7_ l0_2 i).1 t.f2).getD 0),⟨0,0,⟨#[]⟩⟩⟩:S82)]):=by simp only [w7_,aoStep];rw [ht];simp [*]
       have HRUN:=a_ hrun;clear hrun;go_wp2_with (first|(at_lookup;refine wpList_lookS rfl _ _ rfl (w1.heap.size+1) n (w7_ l0_2 i).1 (MapS.alloc HM.out _) rfl t.f2 hsv rfl ?_)|(at_builtin;refine Kd.R_append k82 (w0:=w) w.heap.size rfl (.tmp 62) (.tmp 67) 48 82 (.agg #[(.int .i64 0),(.int .i64 0),(.int .i64 0),(.int .i64 0),(.int .i64 0),(.string ⟨#[]⟩)]) 56 rfl Tryz.underlying48 info82 rfl (by decide) (by omega) (.slice Ao (w7_ l0_2 i).2.length co) (w7_ l0_2 i).2 (⟨(i:Int),t.f1,((lookS (w7_ l0_2 i).1 t.f2).getD 0),⟨0,0,⟨#[]⟩⟩⟩:S82) [.int .i64 (i:Int),.int .i64 t.f1,.int .i64 ((lookS (w7_ l0_2 i).1 t.f2).getD 0),.int .i64 0,.int .i64 0,.string ⟨#[]⟩] (fun k=>k≠w1.heap.size+1) (fun _=>False) rfl (by first|rfl|(show Value.slice (some ⟨wr.heap.size+1,0,none⟩) 1 1=_;simp)) ?aP (fun _ hk=>hk.elim) ?aF ?aO ?aB ?aS ?aL ?_;(case aP=>exact k82_mkM _ _ _ (⟨(i:Int),t.f1,((lookS (w7_ l0_2 i).1 t.f2).getD 0),⟨0,0,⟨#[]⟩⟩⟩:S82));(case aF=>intro k hk;simp at hk;omega);(case aO=>exact Kd.R_alloc HO.out _);(case aB=>exact z3_ HB1.out _);(case aS=>exact zw_ (z3_ HB1.out _));(case aL=>omega);intro v2 wx ho hb hg2 hat;have B3':=a_ (zk_ (z5_ BK3.out _) hg2 (Kd.R_ne HO.out BK3.out (by decide)));have B2':=a_ (zk_ (z5_ BK2.out _) hg2 (Kd.R_ne HO.out BK2.out (by decide)));have M':=a_ ((MapS.alloc HM.out _).kept hg2 (Kd.R_away HO.out (fun _ hk=>hk)));have O':=a_ ho;have HB':=a_ hb;clear ho hb hg2 hat;obtain ⟨Ao2,co2,eo2⟩:=Kd.yv_ O'.out;subst eo2;rw [List.length_append,List.length_singleton] at O';have hv0:=(z1_ B3'.out 0).trans rfl;have hv1:=(z1_ B3'.out 1).trans rfl;have hv2:=(z1_ B3'.out 2).trans rfl;have hy0:=zf_ B3'.out 0;have hy1:=zf_ B3'.out 1;have hy2:=zf_ B3'.out 2));go_roundg (l0_2.length-(i+1))
       case measure=>omega
       case rel=>exact ⟨i+1,n,_,by omega,by omega,by go_num,by omega,⟨blk_far B2'.out HN.out _⟩,⟨wt_ B3'.out 2 _ rfl⟩,⟨by rw [HRUN.out];exact Kd.yk_ (Kd.R_far (p:=⟨w1.heap.size,2,none⟩) (Kd.R_types O'.out B3'.out (by decide)) (fun _ hk=>hk.2) _) (fun _ hk=>hk.1)⟩,⟨by rw [HRUN.out];exact MapS.setCell M'.out HN2.out _⟩,⟨zu_ HB'.out HN3.out⟩⟩
      | false=>
       have p2:(t.f0==2)=false:=by rw [q3];rfl
       have hrun:w7_ l0_2 (i+1)=w7_ l0_2 i:=by simp only [w7_,aoStep];rw [ht];simp [*]
       have HRUN:=a_ hrun;clear hrun;go_wp2_with (first|(at_lookup;refine wpList_lookS rfl _ _ rfl (w1.heap.size+1) n (w7_ l0_2 i).1 (MapS.alloc HM.out _) rfl t.f2 hsv rfl ?_));go_roundg (l0_2.length-(i+1))
       case measure=>omega
       case rel=>exact ⟨i+1,n,_,by omega,by omega,by go_num,by omega,⟨z5_ BK2.out _⟩,⟨z5_ BK3.out _⟩,⟨by rw [HRUN.out];exact Kd.R_alloc HO.out _⟩,⟨by rw [HRUN.out];exact MapS.alloc HM.out _⟩,⟨z3_ HB1.out _⟩⟩
    ·have p3:(t.f0==3)=false:=beq_eq_false_iff_ne.mpr q3
     cases e2:t.f2.toList.isEmpty with
     | true=>
      have hrun:w7_ l0_2 (i+1)=((w7_ l0_2 i).1,(w7_ l0_2 i).2++[(⟨(i:Int),1,-1,t.f3⟩:S82)]):=by simp only [w7_,aoStep];rw [ht];simp [*]
      have HRUN:=a_ hrun;clear hrun;go_wp2_with (first|(at_lookup;refine wpList_lookS rfl _ _ rfl (w1.heap.size+1) n (w7_ l0_2 i).1 (MapS.alloc HM.out _) rfl t.f2 hsv rfl ?_)|(at_builtin;refine Kd.R_append k82 (w0:=w) w.heap.size rfl (.tmp 50) (.tmp 56) 48 82 (.agg #[(.int .i64 0),(.int .i64 0),(.int .i64 0),(.int .i64 0),(.int .i64 0),(.string ⟨#[]⟩)]) 56 rfl Tryz.underlying48 info82 rfl (by decide) (by omega) (.slice Ao (w7_ l0_2 i).2.length co) (w7_ l0_2 i).2 (⟨(i:Int),1,-1,t.f3⟩:S82) [.int .i64 (i:Int),.int .i64 1,.int .i64 (-1),.int .i64 t.f3.f0,.int .i64 t.f3.f1,.string t.f3.f2] (fun k=>k≠w1.heap.size+1) (fun _=>False) rfl (by first|rfl|(show Value.slice (some ⟨wr.heap.size+1,0,none⟩) 1 1=_;simp)) ?aP (fun _ hk=>hk.elim) ?aF ?aO ?aB ?aS ?aL ?_;(case aP=>exact k82_mkM _ _ _ (⟨(i:Int),1,-1,t.f3⟩:S82));(case aF=>intro k hk;simp at hk;omega);(case aO=>exact Kd.R_alloc HO.out _);(case aB=>exact z3_ HB1.out _);(case aS=>exact zw_ (z3_ HB1.out _));(case aL=>omega);intro v2 wx ho hb hg2 hat;have B3':=a_ (zk_ (z5_ BK3.out _) hg2 (Kd.R_ne HO.out BK3.out (by decide)));have B2':=a_ (zk_ (z5_ BK2.out _) hg2 (Kd.R_ne HO.out BK2.out (by decide)));have M':=a_ ((MapS.alloc HM.out _).kept hg2 (Kd.R_away HO.out (fun _ hk=>hk)));have O':=a_ ho;have HB':=a_ hb;clear ho hb hg2 hat;obtain ⟨Ao2,co2,eo2⟩:=Kd.yv_ O'.out;subst eo2;rw [List.length_append,List.length_singleton] at O';have hv0:=(z1_ B3'.out 0).trans rfl;have hv1:=(z1_ B3'.out 1).trans rfl;have hv2:=(z1_ B3'.out 2).trans rfl;have hy0:=zf_ B3'.out 0;have hy1:=zf_ B3'.out 1;have hy2:=zf_ B3'.out 2));go_roundg (l0_2.length-(i+1))
      case measure=>omega
      case rel=>exact ⟨i+1,n,_,by omega,by omega,by go_num,by omega,⟨blk_far B2'.out HN.out _⟩,⟨wt_ B3'.out 2 _ rfl⟩,⟨by rw [HRUN.out];exact Kd.yk_ (Kd.R_far (p:=⟨w1.heap.size,2,none⟩) (Kd.R_types O'.out B3'.out (by decide)) (fun _ hk=>hk.2) _) (fun _ hk=>hk.1)⟩,⟨by rw [HRUN.out];exact MapS.setCell M'.out HN2.out _⟩,⟨zu_ HB'.out HN3.out⟩⟩
     | false=>
      cases hL:(lookS (w7_ l0_2 i).1 t.f2).isSome with
      | true=>
       have hrun:w7_ l0_2 (i+1)=((w7_ l0_2 i).1,(w7_ l0_2 i).2++[(⟨(i:Int),1,((lookS (w7_ l0_2 i).1 t.f2).getD 0),⟨0,0,⟨#[]⟩⟩⟩:S82)]):=by simp only [w7_,aoStep];rw [ht];simp [*]
       have HRUN:=a_ hrun;clear hrun;go_wp2_with (first|(at_lookup;refine wpList_lookS rfl _ _ rfl (w1.heap.size+1) n (w7_ l0_2 i).1 (MapS.alloc HM.out _) rfl t.f2 hsv rfl ?_)|(at_builtin;refine Kd.R_append k82 (w0:=w) w.heap.size rfl (.tmp 62) (.tmp 67) 48 82 (.agg #[(.int .i64 0),(.int .i64 0),(.int .i64 0),(.int .i64 0),(.int .i64 0),(.string ⟨#[]⟩)]) 56 rfl Tryz.underlying48 info82 rfl (by decide) (by omega) (.slice Ao (w7_ l0_2 i).2.length co) (w7_ l0_2 i).2 (⟨(i:Int),1,((lookS (w7_ l0_2 i).1 t.f2).getD 0),⟨0,0,⟨#[]⟩⟩⟩:S82) [.int .i64 (i:Int),.int .i64 1,.int .i64 ((lookS (w7_ l0_2 i).1 t.f2).getD 0),.int .i64 0,.int .i64 0,.string ⟨#[]⟩] (fun k=>k≠w1.heap.size+1) (fun _=>False) rfl (by first|rfl|(show Value.slice (some ⟨wr.heap.size+1,0,none⟩) 1 1=_;simp)) ?aP (fun _ hk=>hk.elim) ?aF ?aO ?aB ?aS ?aL ?_;(case aP=>exact k82_mkM _ _ _ (⟨(i:Int),1,((lookS (w7_ l0_2 i).1 t.f2).getD 0),⟨0,0,⟨#[]⟩⟩⟩:S82));(case aF=>intro k hk;simp at hk;omega);(case aO=>exact Kd.R_alloc HO.out _);(case aB=>exact z3_ HB1.out _);(case aS=>exact zw_ (z3_ HB1.out _));(case aL=>omega);intro v2 wx ho hb hg2 hat;have B3':=a_ (zk_ (z5_ BK3.out _) hg2 (Kd.R_ne HO.out BK3.out (by decide)));have B2':=a_ (zk_ (z5_ BK2.out _) hg2 (Kd.R_ne HO.out BK2.out (by decide)));have M':=a_ ((MapS.alloc HM.out _).kept hg2 (Kd.R_away HO.out (fun _ hk=>hk)));have O':=a_ ho;have HB':=a_ hb;clear ho hb hg2 hat;obtain ⟨Ao2,co2,eo2⟩:=Kd.yv_ O'.out;subst eo2;rw [List.length_append,List.length_singleton] at O';have hv0:=(z1_ B3'.out 0).trans rfl;have hv1:=(z1_ B3'.out 1).trans rfl;have hv2:=(z1_ B3'.out 2).trans rfl;have hy0:=zf_ B3'.out 0;have hy1:=zf_ B3'.out 1;have hy2:=zf_ B3'.out 2));go_roundg (l0_2.length-(i+1))
       case measure=>omega
       case rel=>exact ⟨i+1,n,_,by omega,by omega,by go_num,by omega,⟨blk_far B2'.out HN.out _⟩,⟨wt_ B3'.out 2 _ rfl⟩,⟨by rw [HRUN.out];exact Kd.yk_ (Kd.R_far (p:=⟨w1.heap.size,2,none⟩) (Kd.R_types O'.out B3'.out (by decide)) (fun _ hk=>hk.2) _) (fun _ hk=>hk.1)⟩,⟨by rw [HRUN.out];exact MapS.setCell M'.out HN2.out _⟩,⟨zu_ HB'.out HN3.out⟩⟩
      | false=>
       by_cases q2:t.f0=2
       ·have p2:(t.f0==2)=true:=beq_iff_eq.mpr q2
        have hrun:w7_ l0_2 (i+1)=((t.f2,(i:Int))::(w7_ l0_2 i).1,(w7_ l0_2 i).2):=by simp only [w7_,aoStep];rw [ht];simp [*]
        have HRUN:=a_ hrun;clear hrun;go_wp2_with (first|(at_lookup;refine wpList_lookS rfl _ _ rfl (w1.heap.size+1) n (w7_ l0_2 i).1 (MapS.alloc HM.out _) rfl t.f2 hsv rfl ?_)|(at_mapUpdate;refine wpList_putS rfl _ _ _ rfl (w1.heap.size+1) n (w7_ l0_2 i).1 (MapS.alloc HM.out _) (by unfold maxLen;omega) rfl t.f2 hsv rfl (i:Int) hwi rfl ?_;intro wx hm2 hg2;have B3':=a_ (zk_ (z5_ BK3.out _) hg2 (by intro e;injection e with e;omega));have B2':=a_ (zk_ (z5_ BK2.out _) hg2 (by intro e;injection e with e;omega));have O':=a_ (Kd.R_grown (Kd.R_alloc HO.out _) hg2 (fun k hk e=>hk (by injection e)));have M':=a_ hm2;have HB':=a_ ((z3_ HB1.out _).grown hg2 (zw_ (z3_ HB1.out _)) (by intro k e;injection e with e;omega));clear hm2 hg2));go_roundg (l0_2.length-(i+1))
        case measure=>omega
        case rel=>exact ⟨i+1,n+1,_,by omega,by omega,by go_num,by omega,⟨B2'.out⟩,⟨B3'.out⟩,⟨by rw [HRUN.out];exact O'.out⟩,⟨by rw [HRUN.out];exact M'.out⟩,⟨HB'.out⟩⟩
       ·have p2:(t.f0==2)=false:=beq_eq_false_iff_ne.mpr q2
        have hrun:w7_ l0_2 (i+1)=w7_ l0_2 i:=by simp only [w7_,aoStep];rw [ht];simp [*]
        have HRUN:=a_ hrun;clear hrun;go_wp2_with (first|(at_lookup;refine wpList_lookS rfl _ _ rfl (w1.heap.size+1) n (w7_ l0_2 i).1 (MapS.alloc HM.out _) rfl t.f2 hsv rfl ?_));go_roundg (l0_2.length-(i+1))
        case measure=>omega
        case rel=>exact ⟨i+1,n,_,by omega,by omega,by go_num,by omega,⟨z5_ BK2.out _⟩,⟨z5_ BK3.out _⟩,⟨by rw [HRUN.out];exact Kd.R_alloc HO.out _⟩,⟨by rw [HRUN.out];exact MapS.alloc HM.out _⟩,⟨z3_ HB1.out _⟩⟩
  ·have hil:i=l0_2.length:=by omega
   subst hil;obtain ⟨Ao,co,eo⟩:=Kd.yv_ HO.out;subst eo;have hx0:=z1_ BK3.out 0;have hx1:=z1_ BK3.out 1;have hx2:=z1_ BK3.out 2;have hv0:=z1_ BK2.out 0;have hv1:=z1_ BK2.out 1;have hv2:=z1_ BK2.out 2;simp only [List.getElem?_toArray,List.getElem?_cons_zero,List.getElem?_cons_succ] at hx0 hx1 hx2 hv0 hv1 hv2;have hy0:=zf_ BK2.out 0;have hy1:=zf_ BK2.out 1;have hy2:=zf_ BK2.out 2;go_wp2;refine bodyPost_ret (results_cell_row rfl _ _ (w.heap.size+1) 50 #[.string a0_1,.int .i64 (l0_2.length:Int),.slice Ao (w7_ l0_2 l0_2.length).2.length co] (0,0) _ rfl (wt_ (wt_ (wt_ BK2.out 0 _ rfl) 1 _ rfl) 2 _ rfl) Tryz.underlying50 rfl (by kernel_rfl)) rfl ?_;exact ⟨_,rfl,Kd.yk_ (Kd.R_far (Kd.R_far (Kd.R_far (Kd.R_types HO.out BK2.out (by decide)) (fun _ hk=>hk.2) _) (fun _ hk=>hk.2) _) (fun _ hk=>hk.2) _) (fun _ _=>trivial),zu_ (zu_ (zu_ HB1.out (by omega)) (by omega)) (by omega)⟩
def strconv_Itoa.f (a0:Int):Option ByteArray:=if I64 a0 then some (itoaB a0) else none
theorem strconv_Itoa.calls (a0:Int) (r:ByteArray) (w:World) (h:strconv_Itoa.f a0=some r) (htb_:Go.Proofs.YtahambloheoebaaGreatDoorX.TB w:=by first|assumption|(with_reducible refine Go.Proofs.YtahambloheoebaaGreatDoorX.TB.below (z0_.out HTB) ?_;repeat (first|(with_reducible first|exact HB.out|apply z3_|apply y4_|apply x2_)|exact HB.out|refine zu_ ?_ (z0_.out (by assumption))))|(with_reducible refine Go.Proofs.YtahambloheoebaaGreatDoorX.TBS.TB (z0_.out HTB) ?_;repeat (first|(with_reducible first|exact HB.out|apply z3_|apply y4_|apply x2_)|exact HB.out|refine zu_ ?_ (z0_.out (by assumption))))):
  Calls Tryz.prog 65 #[.int .i64 a0] w fun e w'=>e=.returned (.string r)∧Below w.heap.size w w':=by
 unfold strconv_Itoa.f at h
 split at h
 case isFalse=>cases h
 case isTrue hv=>
 have h:=Option.some.inj h;subst h;refine (Go.Proofs.Tryz.strconv_Itoa a0 hv.1 hv.2 w htb_).mono ?_;rintro e w' ⟨rfl,k,os,rfl⟩;exact ⟨rfl,Go.Lib.below_grow _ _ (Nat.le_refl _) _ _⟩
def valT (v:S80):ByteArray:=if v.f0=1 then v.f2 else itoaB v.f1
def impl_Value_String.f (a0_0 a0_1:Int) (a0_2:ByteArray):Option ByteArray:=if I64 a0_1 then some (valT ⟨a0_0,a0_1,a0_2⟩) else none
set_option maxHeartbeats 4000000 in
set_option maxRecDepth 100000 in
theorem impl_Value_String.walk (v:S80) (w:World) (ht:TB w) (hv:I64 v.f1):
  Calls Tryz.prog 66 #[.agg #[.int .i64 v.f0,.int .i64 v.f1,.string v.f2]] w fun e w'=>e=.returned (.string (valT v))∧Below w.heap.size w w':=by
 obtain ⟨k,n,s⟩:=v;obtain ⟨h0,h1⟩:=hv;have HT:=a_ ht;have H0:=a_ h0;have H1:=a_ h1;have hu:=Tryz.underlying80;clear ht h0 h1;by_cases c:k=1
 ·subst c;go_enter Tryz.func66,Tryz.ntmps66;go_wp2;go_ret;exact ⟨by unfold valT;rw [if_pos rfl];rfl,by repeat (first|exact Below.refl _ _|apply z3_)⟩
 ·have c':(k==1)=false:=beq_eq_false_iff_ne.mpr c
  go_enter Tryz.func66,Tryz.ntmps66;go_wp2_with (go_at_call 43;refine (Go.Proofs.Tryz.strconv_FormatInt_10 n H0.out H1.out _ (HT.out.below (by repeat (first|exact Below.refl _ _|apply z3_)))).mono ?_;rintro e w1 ⟨rfl,kk,os,rfl⟩);go_ret;refine ⟨by unfold valT;rw [if_neg c];rfl,?_⟩;refine Below.trans (by repeat (first|exact Below.refl _ _|apply z3_)) (Go.Lib.below_grow _ _ ?_ _ _);simp
theorem valT_size (v:S80) (h:I64 v.f1):(valT v).size≤v.f2.size+21:=by
 unfold valT
 split
 ·omega
 ·have:=itoaB_size _ h;omega
end Go.Proofs.YtahambloheoebaaGreatDoor.P
