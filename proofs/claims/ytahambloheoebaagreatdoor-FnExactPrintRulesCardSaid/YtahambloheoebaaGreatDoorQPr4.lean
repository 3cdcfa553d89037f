/- The row of the law FnExactPrintRules: for every input the call returns true, and each argument reads behind it as it read before; no condition of ours. -/
import Derived.Test.YtahambloheoebaaGreatDoorProg
import Derived.Below
import Derived.Deep.Draws
import Derived.Deep.AppendLies
import Derived.Maps.AppendAt
import Derived.OwnWalk
import Derived.Laws.BytesArg
import Derived.Laws.MakeOwn
import Derived.Laws.OwnMore
import Derived.Deep.OwnRows
import Derived.Tactics
import Derived.Lib.ConvBytes
import Derived.Laws.Slices
import Derived.WalkKit
import Derived.KernelRfl
import Derived.RowKit3
import Derived.Deep.LoopGhost
import Derived.Deep.QuietTactic
import Derived.BigQuiet
import Derived.WideLaws
import Derived.Deep.DeepCutAuto
import Derived.Deep.CutBlock
import Derived.Deep.RegionHeld3
import Derived.Laws.Rows
import Derived.Lib.AppendStr
import Derived.ArgAppend
import Derived.Laws.IdiomCopy
import Derived.OrdersHeld
import Derived.Laws.BitsLemmas
import Derived.RowKit
import Derived.Maps.RangeWalk
import Derived.Laws.CopyRow
import Derived.Laws.CopyOwn
import Derived.OneCell
import Derived.RangeFuncBox
import Derived.IntWalk
import Derived.Test.YtahambloheoebaaGreatDoorQPr3
namespace Go.Proofs.YtahambloheoebaaGreatDoor.P
open Go.Proofs.YtahambloheoebaaGreatDoorX
open Go.RowKit Go.Proofs.YtahambloheoebaaGreatDoorW.PrintWords Go.Proofs.YtahambloheoebaaGreatDoorW.PrintLast Go.Proofs.YtahambloheoebaaGreatDoorW.PrintMore
attribute [local go_sem] max2_int min2_int max_two min_two max_three min_three max_four min_four
set_option linter.unusedVariables false
set_option linter.unusedSimpArgs false
def errW:Option Int→Value
 | none=>.nilIface
 | some c=>.iface 0 (.int .i64 c)
theorem errW_none:errW none=.nilIface:=rfl
theorem errW_some (c:Int):errW (some c)=.iface 0 (.int .i64 c):=rfl
theorem info3:(Tryz.prog.info? 3).map (fun i=>(i.zero,i.size,i.bytes))=some (some (.int .i64 0),1,8):=by kernel_rfl
theorem info9:(Tryz.prog.info? 9).map (fun i=>(i.zero,i.size,i.bytes))=some (some (.string ⟨#[]⟩),1,16):=by kernel_rfl
theorem info39:(Tryz.prog.info? 39).map (fun i=>(i.zero,i.size,i.bytes))=some (some (.agg #[(.string ⟨#[]⟩),(.int .i64 0),(.slice none 0 0),(.slice none 0 0),(.slice none 0 0)]),5,96):=by kernel_rfl
theorem info42:(Tryz.prog.info? 42).map (fun i=>(i.zero,i.size,i.bytes))=some (some (.agg #[(.bool false),(.string ⟨#[]⟩),(.slice none 0 0)]),3,48):=by kernel_rfl
theorem info86:(Tryz.prog.info? 86).map (fun i=>(i.zero,i.size,i.bytes))=some (some (.agg #[(.int .i64 0),(.int .i64 0),(.string ⟨#[]⟩),(.int .i64 0),(.int .i64 0),(.string ⟨#[]⟩)]),6,64):=by kernel_rfl
theorem info98:(Tryz.prog.info? 98).map (fun i=>(i.zero,i.size,i.bytes))=some (some (.agg #[(.int .i64 0),(.int .i64 0),(.string ⟨#[]⟩),(.slice none 0 0)]),4,56):=by kernel_rfl
theorem info161:(Tryz.prog.info? 161).map (fun i=>(i.zero,i.size,i.bytes))=some (some (.agg #[(.int .i64 0),(.int .u8 0),(.string ⟨#[]⟩),(.int .i64 0),(.int .i64 0),(.string ⟨#[]⟩),(.int .i64 0),(.int .i64 0)]),8,80):=by kernel_rfl
structure S183 where
 f0:Int
 f1:Int
 f2:ByteArray
def z183:S183:=⟨(0:Int),(0:Int),(⟨#[]⟩:ByteArray)⟩
def k183:Kd S183:=Kd.iso (Kd.pair (Kd.int .i64) (Kd.pair (Kd.int .i64) Kd.string)) (fun x:S183=>(x.f0,x.f1,x.f2))
theorem k183_open {w:World} {x:S183} {cs:List Value} (h:k183.K w x cs):cs=[.int .i64 x.f0,.int .i64 x.f1,.string x.f2]:=by
 obtain ⟨_,_,rfl,rfl,⟨_,_,rfl,rfl,rfl⟩⟩:=h;exact rfl
structure S253 where
 f0:Int
 f1:Int
 f2:ByteArray
 f3:S183
def z253:S253:=⟨(0:Int),(0:Int),(⟨#[]⟩:ByteArray),z183⟩
def k253:Kd S253:=Kd.iso (Kd.pair (Kd.int .i64) (Kd.pair (Kd.int .i64) (Kd.pair Kd.string k183))) (fun x:S253=>(x.f0,x.f1,x.f2,x.f3))
theorem k253_open {w:World} {x:S253} {cs:List Value} (h:k253.K w x cs):cs=[.int .i64 x.f0,.int .i64 x.f1,.string x.f2,.int .i64 x.f3.f0,.int .i64 x.f3.f1,.string x.f3.f2]:=by
 obtain ⟨_,_,rfl,rfl,⟨_,_,rfl,rfl,⟨_,_,rfl,rfl,s3⟩⟩⟩:=h;obtain rfl:=k183_open s3;exact rfl
def rd_T253 (xs:List S253) (i:Int):S253:=xs.getD i.toNat z253
theorem at_T253 {w:World} {A:Option Addr} {n:Nat} {xs:List S253} (h:Kd.C k253 w A n xs) (i:Int) (h0:0≤i) (h1:i<n):∃ad ,A=some ad∧w.cell? (ad.add (i.toNat*6))=some (.int .i64 (rd_T253 xs i).f0)∧w.cell? ⟨(ad.add (i.toNat*6)).block,(ad.add (i.toNat*6)).off+1,none⟩=some (.int .i64 (rd_T253 xs i).f1)∧w.cell? ⟨(ad.add (i.toNat*6)).block,(ad.add (i.toNat*6)).off+2,none⟩=some (.string (rd_T253 xs i).f2)∧w.cell? ⟨(ad.add (i.toNat*6)).block,(ad.add (i.toNat*6)).off+3,none⟩=some (.int .i64 (rd_T253 xs i).f3.f0)∧w.cell? ⟨(ad.add (i.toNat*6)).block,(ad.add (i.toNat*6)).off+4,none⟩=some (.int .i64 (rd_T253 xs i).f3.f1)∧w.cell? ⟨(ad.add (i.toNat*6)).block,(ad.add (i.toNat*6)).off+5,none⟩=some (.string (rd_T253 xs i).f3.f2):=by
 obtain ⟨ad,c,e,_,hK,hc0⟩:=Kd.C_get h z253 i h0 h1;have hc:∀j u,c[j]?=some u→w.cell? (ad.add (i.toNat*6+j))=some u:=hc0
 obtain rfl:=k253_open hK;exact ⟨ad,e,hc 0 _ rfl,by rw [←add_field _ _ 1 (by omega)];exact hc 1 _ rfl,by rw [←add_field _ _ 2 (by omega)];exact hc 2 _ rfl,by rw [←add_field _ _ 3 (by omega)];exact hc 3 _ rfl,by rw [←add_field _ _ 4 (by omega)];exact hc 4 _ rfl,by rw [←add_field _ _ 5 (by omega)];exact hc 5 _ rfl⟩
structure S181 where
 f0:Bool
 f1:ByteArray
 f2:(List S253)
def z181:S181:=⟨false,(⟨#[]⟩:ByteArray),([]:List S253)⟩
def k181:Kd S181:=Kd.iso (Kd.pair Kd.bool (Kd.pair Kd.string (Kd.slice 253 k253))) (fun x:S181=>(x.f0,x.f1,x.f2))
theorem k181_open {w:World} {x:S181} {cs:List Value} (h:k181.K w x cs):∃A2 c2,cs=[.bool x.f0,.string x.f1,.slice A2 x.f2.length c2]∧x.f2.length≤c2∧k253.C w A2 x.f2.length x.f2:=by
 obtain ⟨_,_,rfl,rfl,⟨_,_,rfl,rfl,⟨A2,c2,rfl,l2,g2⟩⟩⟩:=h;exact ⟨A2,c2,rfl,l2,g2⟩
def rd_T181 (xs:List S181) (i:Int):S181:=xs.getD i.toNat z181
theorem at_T181 {w:World} {A:Option Addr} {n:Nat} {xs:List S181} (h:Kd.C k181 w A n xs) (i:Int) (h0:0≤i) (h1:i<n):∃ad A2 c2,A=some ad∧w.cell? (ad.add (i.toNat*3))=some (.bool (rd_T181 xs i).f0)∧w.cell? ⟨(ad.add (i.toNat*3)).block,(ad.add (i.toNat*3)).off+1,none⟩=some (.string (rd_T181 xs i).f1)∧w.cell? ⟨(ad.add (i.toNat*3)).block,(ad.add (i.toNat*3)).off+2,none⟩=some (.slice A2 (rd_T181 xs i).f2.length c2)∧(rd_T181 xs i).f2.length≤c2∧k253.C w A2 (rd_T181 xs i).f2.length (rd_T181 xs i).f2:=by
 obtain ⟨ad,c,e,_,hK,hc0⟩:=Kd.C_get h z181 i h0 h1;have hc:∀j u,c[j]?=some u→w.cell? (ad.add (i.toNat*3+j))=some u:=hc0
 obtain ⟨A2,c2,rfl,l2,g2⟩:=k181_open hK;exact ⟨ad,A2,c2,e,hc 0 _ rfl,by rw [←add_field _ _ 1 (by omega)];exact hc 1 _ rfl,by rw [←add_field _ _ 2 (by omega)];exact hc 2 _ rfl,l2,g2⟩
structure S185 where
 f0:Int
 f1:Int
 f2:ByteArray
 f3:S183
 f4:Int
 f5:Int
def z185:S185:=⟨(0:Int),(0:Int),(⟨#[]⟩:ByteArray),z183,(0:Int),(0:Int)⟩
def k185:Kd S185:=Kd.iso (Kd.pair (Kd.int .i64) (Kd.pair (Kd.int .u8) (Kd.pair Kd.string (Kd.pair k183 (Kd.pair (Kd.int .i64) (Kd.int .i64)))))) (fun x:S185=>(x.f0,x.f1,x.f2,x.f3,x.f4,x.f5))
theorem k185_open {w:World} {x:S185} {cs:List Value} (h:k185.K w x cs):cs=[.int .i64 x.f0,.int .u8 x.f1,.string x.f2,.int .i64 x.f3.f0,.int .i64 x.f3.f1,.string x.f3.f2,.int .i64 x.f4,.int .i64 x.f5]:=by
 obtain ⟨_,_,rfl,rfl,⟨_,_,rfl,rfl,⟨_,_,rfl,rfl,⟨_,_,rfl,s3,⟨_,_,rfl,rfl,rfl⟩⟩⟩⟩⟩:=h;obtain rfl:=k183_open s3;exact rfl
def rd_T185 (xs:List S185) (i:Int):S185:=xs.getD i.toNat z185
theorem at_T185 {w:World} {A:Option Addr} {n:Nat} {xs:List S185} (h:Kd.C k185 w A n xs) (i:Int) (h0:0≤i) (h1:i<n):∃ad ,A=some ad∧w.cell? (ad.add (i.toNat*8))=some (.int .i64 (rd_T185 xs i).f0)∧w.cell? ⟨(ad.add (i.toNat*8)).block,(ad.add (i.toNat*8)).off+1,none⟩=some (.int .u8 (rd_T185 xs i).f1)∧w.cell? ⟨(ad.add (i.toNat*8)).block,(ad.add (i.toNat*8)).off+2,none⟩=some (.string (rd_T185 xs i).f2)∧w.cell? ⟨(ad.add (i.toNat*8)).block,(ad.add (i.toNat*8)).off+3,none⟩=some (.int .i64 (rd_T185 xs i).f3.f0)∧w.cell? ⟨(ad.add (i.toNat*8)).block,(ad.add (i.toNat*8)).off+4,none⟩=some (.int .i64 (rd_T185 xs i).f3.f1)∧w.cell? ⟨(ad.add (i.toNat*8)).block,(ad.add (i.toNat*8)).off+5,none⟩=some (.string (rd_T185 xs i).f3.f2)∧w.cell? ⟨(ad.add (i.toNat*8)).block,(ad.add (i.toNat*8)).off+6,none⟩=some (.int .i64 (rd_T185 xs i).f4)∧w.cell? ⟨(ad.add (i.toNat*8)).block,(ad.add (i.toNat*8)).off+7,none⟩=some (.int .i64 (rd_T185 xs i).f5):=by
 obtain ⟨ad,c,e,_,hK,hc0⟩:=Kd.C_get h z185 i h0 h1;have hc:∀j u,c[j]?=some u→w.cell? (ad.add (i.toNat*8+j))=some u:=hc0
 obtain rfl:=k185_open hK;exact ⟨ad,e,hc 0 _ rfl,by rw [←add_field _ _ 1 (by omega)];exact hc 1 _ rfl,by rw [←add_field _ _ 2 (by omega)];exact hc 2 _ rfl,by rw [←add_field _ _ 3 (by omega)];exact hc 3 _ rfl,by rw [←add_field _ _ 4 (by omega)];exact hc 4 _ rfl,by rw [←add_field _ _ 5 (by omega)];exact hc 5 _ rfl,by rw [←add_field _ _ 6 (by omega)];exact hc 6 _ rfl,by rw [←add_field _ _ 7 (by omega)];exact hc 7 _ rfl⟩
structure S187 where
 f0:Int
 f1:Int
 f2:ByteArray
 f3:(List Int)
def z187:S187:=⟨(0:Int),(0:Int),(⟨#[]⟩:ByteArray),([]:List Int)⟩
def k187:Kd S187:=Kd.iso (Kd.pair (Kd.int .i64) (Kd.pair (Kd.int .i64) (Kd.pair Kd.string (Kd.slice 3 (Kd.int .i64))))) (fun x:S187=>(x.f0,x.f1,x.f2,x.f3))
theorem k187_open {w:World} {x:S187} {cs:List Value} (h:k187.K w x cs):∃A3 c3,cs=[.int .i64 x.f0,.int .i64 x.f1,.string x.f2,.slice A3 x.f3.length c3]∧x.f3.length≤c3∧(Kd.int .i64).C w A3 x.f3.length x.f3:=by
 obtain ⟨_,_,rfl,rfl,⟨_,_,rfl,rfl,⟨_,_,rfl,rfl,⟨A3,c3,rfl,l3,g3⟩⟩⟩⟩:=h;exact ⟨A3,c3,rfl,l3,g3⟩
def rd_T187 (xs:List S187) (i:Int):S187:=xs.getD i.toNat z187
theorem at_T187 {w:World} {A:Option Addr} {n:Nat} {xs:List S187} (h:Kd.C k187 w A n xs) (i:Int) (h0:0≤i) (h1:i<n):∃ad A3 c3,A=some ad∧w.cell? (ad.add (i.toNat*4))=some (.int .i64 (rd_T187 xs i).f0)∧w.cell? ⟨(ad.add (i.toNat*4)).block,(ad.add (i.toNat*4)).off+1,none⟩=some (.int .i64 (rd_T187 xs i).f1)∧w.cell? ⟨(ad.add (i.toNat*4)).block,(ad.add (i.toNat*4)).off+2,none⟩=some (.string (rd_T187 xs i).f2)∧w.cell? ⟨(ad.add (i.toNat*4)).block,(ad.add (i.toNat*4)).off+3,none⟩=some (.slice A3 (rd_T187 xs i).f3.length c3)∧(rd_T187 xs i).f3.length≤c3∧(Kd.int .i64).C w A3 (rd_T187 xs i).f3.length (rd_T187 xs i).f3:=by
 obtain ⟨ad,c,e,_,hK,hc0⟩:=Kd.C_get h z187 i h0 h1;have hc:∀j u,c[j]?=some u→w.cell? (ad.add (i.toNat*4+j))=some u:=hc0
 obtain ⟨A3,c3,rfl,l3,g3⟩:=k187_open hK;exact ⟨ad,A3,c3,e,hc 0 _ rfl,by rw [←add_field _ _ 1 (by omega)];exact hc 1 _ rfl,by rw [←add_field _ _ 2 (by omega)];exact hc 2 _ rfl,by rw [←add_field _ _ 3 (by omega)];exact hc 3 _ rfl,l3,g3⟩
structure S94 where
 f0:ByteArray
 f1:Int
 f2:(List S181)
 f3:(List S185)
 f4:(List S187)
def z94:S94:=⟨(⟨#[]⟩:ByteArray),(0:Int),([]:List S181),([]:List S185),([]:List S187)⟩
def k94:Kd S94:=Kd.iso (Kd.pair Kd.string (Kd.pair (Kd.int .i64) (Kd.pair (Kd.slice 181 k181) (Kd.pair (Kd.slice 185 k185) (Kd.slice 187 k187))))) (fun x:S94=>(x.f0,x.f1,x.f2,x.f3,x.f4))
theorem k94_open {w:World} {x:S94} {cs:List Value} (h:k94.K w x cs):∃A2 c2 A3 c3 A4 c4,cs=[.string x.f0,.int .i64 x.f1,.slice A2 x.f2.length c2,.slice A3 x.f3.length c3,.slice A4 x.f4.length c4]∧x.f2.length≤c2∧k181.C w A2 x.f2.length x.f2∧x.f3.length≤c3∧k185.C w A3 x.f3.length x.f3∧x.f4.length≤c4∧k187.C w A4 x.f4.length x.f4:=by
 obtain ⟨_,_,rfl,rfl,⟨_,_,rfl,rfl,⟨_,_,rfl,⟨A2,c2,rfl,l2,g2⟩,⟨_,_,rfl,⟨A3,c3,rfl,l3,g3⟩,⟨A4,c4,rfl,l4,g4⟩⟩⟩⟩⟩:=h;exact ⟨A2,c2,A3,c3,A4,c4,rfl,l2,g2,l3,g3,l4,g4⟩
def rd_T94 (xs:List S94) (i:Int):S94:=xs.getD i.toNat z94
theorem at_T94 {w:World} {A:Option Addr} {n:Nat} {xs:List S94} (h:Kd.C k94 w A n xs) (i:Int) (h0:0≤i) (h1:i<n):∃ad A2 c2 A3 c3 A4 c4,A=some ad∧w.cell? (ad.add (i.toNat*5))=some (.string (rd_T94 xs i).f0)∧w.cell? ⟨(ad.add (i.toNat*5)).block,(ad.add (i.toNat*5)).off+1,none⟩=some (.int .i64 (rd_T94 xs i).f1)∧w.cell? ⟨(ad.add (i.toNat*5)).block,(ad.add (i.toNat*5)).off+2,none⟩=some (.slice A2 (rd_T94 xs i).f2.length c2)∧w.cell? ⟨(ad.add (i.toNat*5)).block,(ad.add (i.toNat*5)).off+3,none⟩=some (.slice A3 (rd_T94 xs i).f3.length c3)∧w.cell? ⟨(ad.add (i.toNat*5)).block,(ad.add (i.toNat*5)).off+4,none⟩=some (.slice A4 (rd_T94 xs i).f4.length c4)∧(rd_T94 xs i).f2.length≤c2∧k181.C w A2 (rd_T94 xs i).f2.length (rd_T94 xs i).f2∧(rd_T94 xs i).f3.length≤c3∧k185.C w A3 (rd_T94 xs i).f3.length (rd_T94 xs i).f3∧(rd_T94 xs i).f4.length≤c4∧k187.C w A4 (rd_T94 xs i).f4.length (rd_T94 xs i).f4:=by
 obtain ⟨ad,c,e,_,hK,hc0⟩:=Kd.C_get h z94 i h0 h1;have hc:∀j u,c[j]?=some u→w.cell? (ad.add (i.toNat*5+j))=some u:=hc0
 obtain ⟨A2,c2,A3,c3,A4,c4,rfl,l2,g2,l3,g3,l4,g4⟩:=k94_open hK;exact ⟨ad,A2,c2,A3,c3,A4,c4,e,hc 0 _ rfl,by rw [←add_field _ _ 1 (by omega)];exact hc 1 _ rfl,by rw [←add_field _ _ 2 (by omega)];exact hc 2 _ rfl,by rw [←add_field _ _ 3 (by omega)];exact hc 3 _ rfl,by rw [←add_field _ _ 4 (by omega)];exact hc 4 _ rfl,l2,g2,l3,g3,l4,g4⟩
structure S80 where
 f0:Int
 f1:Int
 f2:ByteArray
def z80:S80:=⟨(0:Int),(0:Int),(⟨#[]⟩:ByteArray)⟩
def k80:Kd S80:=Kd.iso (Kd.pair (Kd.int .i64) (Kd.pair (Kd.int .i64) Kd.string)) (fun x:S80=>(x.f0,x.f1,x.f2))
theorem k80_open {w:World} {x:S80} {cs:List Value} (h:k80.K w x cs):cs=[.int .i64 x.f0,.int .i64 x.f1,.string x.f2]:=by
 obtain ⟨_,_,rfl,rfl,⟨_,_,rfl,rfl,rfl⟩⟩:=h;exact rfl
theorem k80_openM {w:World} {base:Nat} {ok:Nat→Prop} {x:S80} {cs:List Value} (h:k80.M w base ok x cs):cs=[.int .i64 x.f0,.int .i64 x.f1,.string x.f2]:=by
 obtain ⟨_,_,rfl,rfl,⟨_,_,rfl,rfl,rfl⟩⟩:=h;exact rfl
theorem k80_mkM (w:World) (base:Nat) (ok:Nat→Prop) (x:S80)  : k80.M w base ok x [.int .i64 x.f0,.int .i64 x.f1,.string x.f2]:=⟨[.int .i64 x.f0],[.int .i64 x.f1,.string x.f2],rfl,rfl,⟨[.int .i64 x.f1],[.string x.f2],rfl,rfl,rfl⟩⟩
structure S86 where
 f0:Int
 f1:Int
 f2:ByteArray
 f3:S80
def z86:S86:=⟨(0:Int),(0:Int),(⟨#[]⟩:ByteArray),z80⟩
def k86:Kd S86:=Kd.iso (Kd.pair (Kd.int .i64) (Kd.pair (Kd.int .i64) (Kd.pair Kd.string k80))) (fun x:S86=>(x.f0,x.f1,x.f2,x.f3))
theorem k86_open {w:World} {x:S86} {cs:List Value} (h:k86.K w x cs):cs=[.int .i64 x.f0,.int .i64 x.f1,.string x.f2,.int .i64 x.f3.f0,.int .i64 x.f3.f1,.string x.f3.f2]:=by
 obtain ⟨_,_,rfl,rfl,⟨_,_,rfl,rfl,⟨_,_,rfl,rfl,s3⟩⟩⟩:=h;obtain rfl:=k80_open s3;exact rfl
theorem k86_openM {w:World} {base:Nat} {ok:Nat→Prop} {x:S86} {cs:List Value} (h:k86.M w base ok x cs):cs=[.int .i64 x.f0,.int .i64 x.f1,.string x.f2,.int .i64 x.f3.f0,.int .i64 x.f3.f1,.string x.f3.f2]:=by
 obtain ⟨_,_,rfl,rfl,⟨_,_,rfl,rfl,⟨_,_,rfl,rfl,s3⟩⟩⟩:=h;obtain rfl:=k80_openM s3;exact rfl
theorem k86_mkM (w:World) (base:Nat) (ok:Nat→Prop) (x:S86)  : k86.M w base ok x [.int .i64 x.f0,.int .i64 x.f1,.string x.f2,.int .i64 x.f3.f0,.int .i64 x.f3.f1,.string x.f3.f2]:=⟨[.int .i64 x.f0],[.int .i64 x.f1,.string x.f2,.int .i64 x.f3.f0,.int .i64 x.f3.f1,.string x.f3.f2],rfl,rfl,⟨[.int .i64 x.f1],[.string x.f2,.int .i64 x.f3.f0,.int .i64 x.f3.f1,.string x.f3.f2],rfl,rfl,⟨[.string x.f2],[.int .i64 x.f3.f0,.int .i64 x.f3.f1,.string x.f3.f2],rfl,rfl,(k80_mkM w base ok x.f3 )⟩⟩⟩
def rd_T86 (xs:List S86) (i:Int):S86:=xs.getD i.toNat z86
theorem at_T86 {w:World} {A:Option Addr} {n:Nat} {xs:List S86} (h:Kd.C k86 w A n xs) (i:Int) (h0:0≤i) (h1:i<n):∃ad ,A=some ad∧w.cell? (ad.add (i.toNat*6))=some (.int .i64 (rd_T86 xs i).f0)∧w.cell? ⟨(ad.add (i.toNat*6)).block,(ad.add (i.toNat*6)).off+1,none⟩=some (.int .i64 (rd_T86 xs i).f1)∧w.cell? ⟨(ad.add (i.toNat*6)).block,(ad.add (i.toNat*6)).off+2,none⟩=some (.string (rd_T86 xs i).f2)∧w.cell? ⟨(ad.add (i.toNat*6)).block,(ad.add (i.toNat*6)).off+3,none⟩=some (.int .i64 (rd_T86 xs i).f3.f0)∧w.cell? ⟨(ad.add (i.toNat*6)).block,(ad.add (i.toNat*6)).off+4,none⟩=some (.int .i64 (rd_T86 xs i).f3.f1)∧w.cell? ⟨(ad.add (i.toNat*6)).block,(ad.add (i.toNat*6)).off+5,none⟩=some (.string (rd_T86 xs i).f3.f2):=by
 obtain ⟨ad,c,e,_,hK,hc0⟩:=Kd.C_get h z86 i h0 h1;have hc:∀j u,c[j]?=some u→w.cell? (ad.add (i.toNat*6+j))=some u:=hc0
 obtain rfl:=k86_open hK;exact ⟨ad,e,hc 0 _ rfl,by rw [←add_field _ _ 1 (by omega)];exact hc 1 _ rfl,by rw [←add_field _ _ 2 (by omega)];exact hc 2 _ rfl,by rw [←add_field _ _ 3 (by omega)];exact hc 3 _ rfl,by rw [←add_field _ _ 4 (by omega)];exact hc 4 _ rfl,by rw [←add_field _ _ 5 (by omega)];exact hc 5 _ rfl⟩
structure S161 where
 f0:Int
 f1:Int
 f2:ByteArray
 f3:S80
 f4:Int
 f5:Int
def z161:S161:=⟨(0:Int),(0:Int),(⟨#[]⟩:ByteArray),z80,(0:Int),(0:Int)⟩
def k161:Kd S161:=Kd.iso (Kd.pair (Kd.int .i64) (Kd.pair (Kd.int .u8) (Kd.pair Kd.string (Kd.pair k80 (Kd.pair (Kd.int .i64) (Kd.int .i64)))))) (fun x:S161=>(x.f0,x.f1,x.f2,x.f3,x.f4,x.f5))
theorem k161_open {w:World} {x:S161} {cs:List Value} (h:k161.K w x cs):cs=[.int .i64 x.f0,.int .u8 x.f1,.string x.f2,.int .i64 x.f3.f0,.int .i64 x.f3.f1,.string x.f3.f2,.int .i64 x.f4,.int .i64 x.f5]:=by
 obtain ⟨_,_,rfl,rfl,⟨_,_,rfl,rfl,⟨_,_,rfl,rfl,⟨_,_,rfl,s3,⟨_,_,rfl,rfl,rfl⟩⟩⟩⟩⟩:=h;obtain rfl:=k80_open s3;exact rfl
theorem k161_openM {w:World} {base:Nat} {ok:Nat→Prop} {x:S161} {cs:List Value} (h:k161.M w base ok x cs):cs=[.int .i64 x.f0,.int .u8 x.f1,.string x.f2,.int .i64 x.f3.f0,.int .i64 x.f3.f1,.string x.f3.f2,.int .i64 x.f4,.int .i64 x.f5]:=by
 obtain ⟨_,_,rfl,rfl,⟨_,_,rfl,rfl,⟨_,_,rfl,rfl,⟨_,_,rfl,s3,⟨_,_,rfl,rfl,rfl⟩⟩⟩⟩⟩:=h;obtain rfl:=k80_openM s3;exact rfl
theorem k161_mkM (w:World) (base:Nat) (ok:Nat→Prop) (x:S161)  : k161.M w base ok x [.int .i64 x.f0,.int .u8 x.f1,.string x.f2,.int .i64 x.f3.f0,.int .i64 x.f3.f1,.string x.f3.f2,.int .i64 x.f4,.int .i64 x.f5]:=⟨[.int .i64 x.f0],[.int .u8 x.f1,.string x.f2,.int .i64 x.f3.f0,.int .i64 x.f3.f1,.string x.f3.f2,.int .i64 x.f4,.int .i64 x.f5],rfl,rfl,⟨[.int .u8 x.f1],[.string x.f2,.int .i64 x.f3.f0,.int .i64 x.f3.f1,.string x.f3.f2,.int .i64 x.f4,.int .i64 x.f5],rfl,rfl,⟨[.string x.f2],[.int .i64 x.f3.f0,.int .i64 x.f3.f1,.string x.f3.f2,.int .i64 x.f4,.int .i64 x.f5],rfl,rfl,⟨[.int .i64 x.f3.f0,.int .i64 x.f3.f1,.string x.f3.f2],[.int .i64 x.f4,.int .i64 x.f5],rfl,(k80_mkM w base ok x.f3 ),⟨[.int .i64 x.f4],[.int .i64 x.f5],rfl,rfl,rfl⟩⟩⟩⟩⟩
def rd_T161 (xs:List S161) (i:Int):S161:=xs.getD i.toNat z161
theorem at_T161 {w:World} {A:Option Addr} {n:Nat} {xs:List S161} (h:Kd.C k161 w A n xs) (i:Int) (h0:0≤i) (h1:i<n):∃ad ,A=some ad∧w.cell? (ad.add (i.toNat*8))=some (.int .i64 (rd_T161 xs i).f0)∧w.cell? ⟨(ad.add (i.toNat*8)).block,(ad.add (i.toNat*8)).off+1,none⟩=some (.int .u8 (rd_T161 xs i).f1)∧w.cell? ⟨(ad.add (i.toNat*8)).block,(ad.add (i.toNat*8)).off+2,none⟩=some (.string (rd_T161 xs i).f2)∧w.cell? ⟨(ad.add (i.toNat*8)).block,(ad.add (i.toNat*8)).off+3,none⟩=some (.int .i64 (rd_T161 xs i).f3.f0)∧w.cell? ⟨(ad.add (i.toNat*8)).block,(ad.add (i.toNat*8)).off+4,none⟩=some (.int .i64 (rd_T161 xs i).f3.f1)∧w.cell? ⟨(ad.add (i.toNat*8)).block,(ad.add (i.toNat*8)).off+5,none⟩=some (.string (rd_T161 xs i).f3.f2)∧w.cell? ⟨(ad.add (i.toNat*8)).block,(ad.add (i.toNat*8)).off+6,none⟩=some (.int .i64 (rd_T161 xs i).f4)∧w.cell? ⟨(ad.add (i.toNat*8)).block,(ad.add (i.toNat*8)).off+7,none⟩=some (.int .i64 (rd_T161 xs i).f5):=by
 obtain ⟨ad,c,e,_,hK,hc0⟩:=Kd.C_get h z161 i h0 h1;have hc:∀j u,c[j]?=some u→w.cell? (ad.add (i.toNat*8+j))=some u:=hc0
 obtain rfl:=k161_open hK;exact ⟨ad,e,hc 0 _ rfl,by rw [←add_field _ _ 1 (by omega)];exact hc 1 _ rfl,by rw [←add_field _ _ 2 (by omega)];exact hc 2 _ rfl,by rw [←add_field _ _ 3 (by omega)];exact hc 3 _ rfl,by rw [←add_field _ _ 4 (by omega)];exact hc 4 _ rfl,by rw [←add_field _ _ 5 (by omega)];exact hc 5 _ rfl,by rw [←add_field _ _ 6 (by omega)];exact hc 6 _ rfl,by rw [←add_field _ _ 7 (by omega)];exact hc 7 _ rfl⟩
structure S42 where
 f0:Bool
 f1:ByteArray
 f2:(List S86)
def z42:S42:=⟨false,(⟨#[]⟩:ByteArray),([]:List S86)⟩
def k42:Kd S42:=Kd.iso (Kd.pair Kd.bool (Kd.pair Kd.string (Kd.slice 86 k86))) (fun x:S42=>(x.f0,x.f1,x.f2))
theorem k42_open {w:World} {x:S42} {cs:List Value} (h:k42.K w x cs):∃A2 c2,cs=[.bool x.f0,.string x.f1,.slice A2 x.f2.length c2]∧x.f2.length≤c2∧k86.C w A2 x.f2.length x.f2:=by
 obtain ⟨_,_,rfl,rfl,⟨_,_,rfl,rfl,⟨A2,c2,rfl,l2,g2⟩⟩⟩:=h;exact ⟨A2,c2,rfl,l2,g2⟩
theorem k42_openM {w:World} {base:Nat} {ok:Nat→Prop} {x:S42} {cs:List Value} (h:k42.M w base ok x cs):∃v2,cs=[.bool x.f0,.string x.f1,v2]∧k86.R 86 w base ok v2 x.f2:=by
 obtain ⟨_,_,rfl,rfl,⟨_,_,rfl,rfl,⟨v2,rfl,g2⟩⟩⟩:=h;exact ⟨v2,rfl,g2⟩
theorem k42_mkM (w:World) (base:Nat) (ok:Nat→Prop) (x:S42) {v2:Value} (g2:k86.R 86 w base ok v2 x.f2):k42.M w base ok x [.bool x.f0,.string x.f1,v2]:=⟨[.bool x.f0],[.string x.f1,v2],rfl,rfl,⟨[.string x.f1],[v2],rfl,rfl,⟨v2,rfl,g2⟩⟩⟩
def rd_T42 (xs:List S42) (i:Int):S42:=xs.getD i.toNat z42
theorem at_T42 {w:World} {A:Option Addr} {n:Nat} {xs:List S42} (h:Kd.C k42 w A n xs) (i:Int) (h0:0≤i) (h1:i<n):∃ad A2 c2,A=some ad∧w.cell? (ad.add (i.toNat*3))=some (.bool (rd_T42 xs i).f0)∧w.cell? ⟨(ad.add (i.toNat*3)).block,(ad.add (i.toNat*3)).off+1,none⟩=some (.string (rd_T42 xs i).f1)∧w.cell? ⟨(ad.add (i.toNat*3)).block,(ad.add (i.toNat*3)).off+2,none⟩=some (.slice A2 (rd_T42 xs i).f2.length c2)∧(rd_T42 xs i).f2.length≤c2∧k86.C w A2 (rd_T42 xs i).f2.length (rd_T42 xs i).f2:=by
 obtain ⟨ad,c,e,_,hK,hc0⟩:=Kd.C_get h z42 i h0 h1;have hc:∀j u,c[j]?=some u→w.cell? (ad.add (i.toNat*3+j))=some u:=hc0
 obtain ⟨A2,c2,rfl,l2,g2⟩:=k42_open hK;exact ⟨ad,A2,c2,e,hc 0 _ rfl,by rw [←add_field _ _ 1 (by omega)];exact hc 1 _ rfl,by rw [←add_field _ _ 2 (by omega)];exact hc 2 _ rfl,l2,g2⟩
structure S98 where
 f0:Int
 f1:Int
 f2:ByteArray
 f3:(List Int)
def z98:S98:=⟨(0:Int),(0:Int),(⟨#[]⟩:ByteArray),([]:List Int)⟩
def k98:Kd S98:=Kd.iso (Kd.pair (Kd.int .i64) (Kd.pair (Kd.int .i64) (Kd.pair Kd.string (Kd.slice 3 (Kd.int .i64))))) (fun x:S98=>(x.f0,x.f1,x.f2,x.f3))
theorem k98_open {w:World} {x:S98} {cs:List Value} (h:k98.K w x cs):∃A3 c3,cs=[.int .i64 x.f0,.int .i64 x.f1,.string x.f2,.slice A3 x.f3.length c3]∧x.f3.length≤c3∧(Kd.int .i64).C w A3 x.f3.length x.f3:=by
 obtain ⟨_,_,rfl,rfl,⟨_,_,rfl,rfl,⟨_,_,rfl,rfl,⟨A3,c3,rfl,l3,g3⟩⟩⟩⟩:=h;exact ⟨A3,c3,rfl,l3,g3⟩
theorem k98_openM {w:World} {base:Nat} {ok:Nat→Prop} {x:S98} {cs:List Value} (h:k98.M w base ok x cs):∃v3,cs=[.int .i64 x.f0,.int .i64 x.f1,.string x.f2,v3]∧(Kd.int .i64).R 3 w base ok v3 x.f3:=by
 obtain ⟨_,_,rfl,rfl,⟨_,_,rfl,rfl,⟨_,_,rfl,rfl,⟨v3,rfl,g3⟩⟩⟩⟩:=h;exact ⟨v3,rfl,g3⟩
theorem k98_mkM (w:World) (base:Nat) (ok:Nat→Prop) (x:S98) {v3:Value} (g3:(Kd.int .i64).R 3 w base ok v3 x.f3):k98.M w base ok x [.int .i64 x.f0,.int .i64 x.f1,.string x.f2,v3]:=⟨[.int .i64 x.f0],[.int .i64 x.f1,.string x.f2,v3],rfl,rfl,⟨[.int .i64 x.f1],[.string x.f2,v3],rfl,rfl,⟨[.string x.f2],[v3],rfl,rfl,⟨v3,rfl,g3⟩⟩⟩⟩
def rd_T98 (xs:List S98) (i:Int):S98:=xs.getD i.toNat z98
theorem at_T98 {w:World} {A:Option Addr} {n:Nat} {xs:List S98} (h:Kd.C k98 w A n xs) (i:Int) (h0:0≤i) (h1:i<n):∃ad A3 c3,A=some ad∧w.cell? (ad.add (i.toNat*4))=some (.int .i64 (rd_T98 xs i).f0)∧w.cell? ⟨(ad.add (i.toNat*4)).block,(ad.add (i.toNat*4)).off+1,none⟩=some (.int .i64 (rd_T98 xs i).f1)∧w.cell? ⟨(ad.add (i.toNat*4)).block,(ad.add (i.toNat*4)).off+2,none⟩=some (.string (rd_T98 xs i).f2)∧w.cell? ⟨(ad.add (i.toNat*4)).block,(ad.add (i.toNat*4)).off+3,none⟩=some (.slice A3 (rd_T98 xs i).f3.length c3)∧(rd_T98 xs i).f3.length≤c3∧(Kd.int .i64).C w A3 (rd_T98 xs i).f3.length (rd_T98 xs i).f3:=by
 obtain ⟨ad,c,e,_,hK,hc0⟩:=Kd.C_get h z98 i h0 h1;have hc:∀j u,c[j]?=some u→w.cell? (ad.add (i.toNat*4+j))=some u:=hc0
 obtain ⟨A3,c3,rfl,l3,g3⟩:=k98_open hK;exact ⟨ad,A3,c3,e,hc 0 _ rfl,by rw [←add_field _ _ 1 (by omega)];exact hc 1 _ rfl,by rw [←add_field _ _ 2 (by omega)];exact hc 2 _ rfl,by rw [←add_field _ _ 3 (by omega)];exact hc 3 _ rfl,l3,g3⟩
structure S39 where
 f0:ByteArray
 f1:Int
 f2:(List S42)
 f3:(List S161)
 f4:(List S98)
def z39:S39:=⟨(⟨#[]⟩:ByteArray),(0:Int),([]:List S42),([]:List S161),([]:List S98)⟩
def k39:Kd S39:=Kd.iso (Kd.pair Kd.string (Kd.pair (Kd.int .i64) (Kd.pair (Kd.slice 42 k42) (Kd.pair (Kd.slice 161 k161) (Kd.slice 98 k98))))) (fun x:S39=>(x.f0,x.f1,x.f2,x.f3,x.f4))
theorem k39_open {w:World} {x:S39} {cs:List Value} (h:k39.K w x cs):∃A2 c2 A3 c3 A4 c4,cs=[.string x.f0,.int .i64 x.f1,.slice A2 x.f2.length c2,.slice A3 x.f3.length c3,.slice A4 x.f4.length c4]∧x.f2.length≤c2∧k42.C w A2 x.f2.length x.f2∧x.f3.length≤c3∧k161.C w A3 x.f3.length x.f3∧x.f4.length≤c4∧k98.C w A4 x.f4.length x.f4:=by
 obtain ⟨_,_,rfl,rfl,⟨_,_,rfl,rfl,⟨_,_,rfl,⟨A2,c2,rfl,l2,g2⟩,⟨_,_,rfl,⟨A3,c3,rfl,l3,g3⟩,⟨A4,c4,rfl,l4,g4⟩⟩⟩⟩⟩:=h;exact ⟨A2,c2,A3,c3,A4,c4,rfl,l2,g2,l3,g3,l4,g4⟩
theorem k39_openM {w:World} {base:Nat} {ok:Nat→Prop} {x:S39} {cs:List Value} (h:k39.M w base ok x cs):∃v2 v3 v4,cs=[.string x.f0,.int .i64 x.f1,v2,v3,v4]∧k42.R 42 w base ok v2 x.f2∧k161.R 161 w base ok v3 x.f3∧k98.R 98 w base ok v4 x.f4:=by
 obtain ⟨_,_,rfl,rfl,⟨_,_,rfl,rfl,⟨_,_,rfl,⟨v2,rfl,g2⟩,⟨_,_,rfl,⟨v3,rfl,g3⟩,⟨v4,rfl,g4⟩⟩⟩⟩⟩:=h;exact ⟨v2,v3,v4,rfl,g2,g3,g4⟩
theorem k39_mkM (w:World) (base:Nat) (ok:Nat→Prop) (x:S39) {v2:Value} (g2:k42.R 42 w base ok v2 x.f2) {v3:Value} (g3:k161.R 161 w base ok v3 x.f3) {v4:Value} (g4:k98.R 98 w base ok v4 x.f4):k39.M w base ok x [.string x.f0,.int .i64 x.f1,v2,v3,v4]:=⟨[.string x.f0],[.int .i64 x.f1,v2,v3,v4],rfl,rfl,⟨[.int .i64 x.f1],[v2,v3,v4],rfl,rfl,⟨[v2],[v3,v4],rfl,⟨v2,rfl,g2⟩,⟨[v3],[v4],rfl,⟨v3,rfl,g3⟩,⟨v4,rfl,g4⟩⟩⟩⟩⟩
def rd_T39 (xs:List S39) (i:Int):S39:=xs.getD i.toNat z39
theorem at_T39 {w:World} {A:Option Addr} {n:Nat} {xs:List S39} (h:Kd.C k39 w A n xs) (i:Int) (h0:0≤i) (h1:i<n):∃ad A2 c2 A3 c3 A4 c4,A=some ad∧w.cell? (ad.add (i.toNat*5))=some (.string (rd_T39 xs i).f0)∧w.cell? ⟨(ad.add (i.toNat*5)).block,(ad.add (i.toNat*5)).off+1,none⟩=some (.int .i64 (rd_T39 xs i).f1)∧w.cell? ⟨(ad.add (i.toNat*5)).block,(ad.add (i.toNat*5)).off+2,none⟩=some (.slice A2 (rd_T39 xs i).f2.length c2)∧w.cell? ⟨(ad.add (i.toNat*5)).block,(ad.add (i.toNat*5)).off+3,none⟩=some (.slice A3 (rd_T39 xs i).f3.length c3)∧w.cell? ⟨(ad.add (i.toNat*5)).block,(ad.add (i.toNat*5)).off+4,none⟩=some (.slice A4 (rd_T39 xs i).f4.length c4)∧(rd_T39 xs i).f2.length≤c2∧k42.C w A2 (rd_T39 xs i).f2.length (rd_T39 xs i).f2∧(rd_T39 xs i).f3.length≤c3∧k161.C w A3 (rd_T39 xs i).f3.length (rd_T39 xs i).f3∧(rd_T39 xs i).f4.length≤c4∧k98.C w A4 (rd_T39 xs i).f4.length (rd_T39 xs i).f4:=by
 obtain ⟨ad,c,e,_,hK,hc0⟩:=Kd.C_get h z39 i h0 h1;have hc:∀j u,c[j]?=some u→w.cell? (ad.add (i.toNat*5+j))=some u:=hc0
 obtain ⟨A2,c2,A3,c3,A4,c4,rfl,l2,g2,l3,g3,l4,g4⟩:=k39_open hK;exact ⟨ad,A2,c2,A3,c3,A4,c4,e,hc 0 _ rfl,by rw [←add_field _ _ 1 (by omega)];exact hc 1 _ rfl,by rw [←add_field _ _ 2 (by omega)];exact hc 2 _ rfl,by rw [←add_field _ _ 3 (by omega)];exact hc 3 _ rfl,by rw [←add_field _ _ 4 (by omega)];exact hc 4 _ rfl,l2,g2,l3,g3,l4,g4⟩
end Go.Proofs.YtahambloheoebaaGreatDoor.P
namespace Go.Proofs.YtahambloheoebaaGreatDoorX
open Go Go.RowKit Go.Proofs.YtahambloheoebaaGreatDoorW.PrintWords Go.Proofs.YtahambloheoebaaGreatDoorW.PrintLast
set_option linter.unusedVariables false
set_option linter.unusedSimpArgs false
abbrev t_:Bool:=true
abbrev f_:Bool:=false
theorem ps_:(∀(l:List Value) (i:Nat) (a:Value),l.toArray.setIfInBounds i a=(l.set i a).toArray)∧(∀(x a:Value) (l:List Value),(x::l).set 0 a=a::l)∧(∀(x a:Value) (l:List Value) (i:Nat),(x::l).set (i+1) a=x::l.set i a)∧(∀n,IntKind.i64.wrap n=Go.RowKit.wrap64 n)∧(∀n,IntKind.i32.wrap n=Go.RowKit.wrap32 n):=
 ⟨fun _ _ _=>List.setIfInBounds_toArray ..,fun _ _ _=>List.set_cons_zero,fun _ _ _ _=>List.set_cons_succ,i64_w,i32_w⟩
section
variable {P:Program} {md:Region.Mode} {ops:Array Oper} {Q:Exit→Act→World→Prop} {S:World→Prop} {ds:List Nat}
theorem pu_ {oi:Oper} {v:Value} {fuel:Nat} {l:Array Bool} {a a':Act} {w:World} (i N:Nat) (l':Array Bool) (hc:anyB md ops l l' i=true) (h:wpAnyLast P md ops Q S ds fuel l' a' w)
  (hi:ops[i]?=some oi:=by exact rfl) (hN:oi.dst=some N:=by exact rfl) (hQ:∀c a w,Q (.panic c) (a.put oi.dst v) w→Q (.panic c) a w:=by exact fun _ _ _ h=>h)
  (hy:Yields P ops oi v a:=by exact Or.inl ⟨by rfl,by intro w';go_simp;with_reducible rfl⟩)
  (ha:a.put (some N) v=a':=by simp only [Act.put,ps_];rfl):wpAnyLast P md ops Q S ds (fuel+1) l a w:=pure_ l' hi hN hc hQ hy ha h
theorem pv_ {oi:Oper} {fuel:Nat} {l:Array Bool} {a a':Act} {w:World} (i N:Nat) (l':Array Bool) (hc:anyB md ops l l' i=true) (h:wpAnyLast P md ops Q S ds fuel l' a' w)
  (hi:ops[i]?=some oi:=by exact rfl) (hN:oi.dst=some N:=by exact rfl) (hQ:∀c a w,Q (.panic c) (a.put oi.dst undef) w→Q (.panic c) a w:=by exact fun _ _ _ h=>h)
  (hy:Yields P ops oi undef a:=by exact Or.inr ⟨by rfl,rfl⟩)
  (ha:a.put (some N) undef=a':=by simp only [Act.put,ps_];rfl):wpAnyLast P md ops Q S ds (fuel+1) l a w:=pure_ l' hi hN hc hQ hy ha h
theorem tk_ {oi:Oper} {v:Value} {fuel:Nat} {l:Array Bool} {a a':Act} {w:World} (i N:Nat) (l':Array Bool) (hc:takeB md ops ds l l' i=true) (hS:S w) (h:wpAnyLast P md ops Q S ds fuel l' a' w)
  (hi:ops[i]?=some oi:=by exact rfl) (hN:oi.dst=some N:=by exact rfl) (hQ:∀c a w,Q (.panic c) (a.put oi.dst v) w→Q (.panic c) a w:=by exact fun _ _ _ h=>h)
  (hy:YieldsIf P ops S oi v a:=by exact Or.inl ⟨by rfl,by intro w' hs;(repeat (obtain ⟨_,hs⟩:=hs));go_simp;with_reducible rfl⟩)
  (ha:a.put (some N) v=a':=by simp only [Act.put,ps_];rfl):wpAnyLast P md ops Q S ds (fuel+1) l a w:=take_ l' hi hN hc hQ hy hS ha h
theorem nm_ {v:Value} {fuel:Nat} {l:Array Bool} {a a':Act} {w:World} (N:Nat) (h:wpAnyLast P md ops Q S ds fuel l a' w) (ha:Act.put a (some N) v=a':=by simp only [Act.put,ps_];rfl):wpAnyLast P md ops Q S ds fuel l (Act.put a (some N) v) w:=norm_ ha h
end
section
variable {w:World} {g:Nat} {t:TypeId} {a0 a1 a2 a3 a4 a5 a6 a7:Value}
theorem bc5 (h:Aside0 (w.heap[g]?=some (.cells #[a0,a1,a2,a3,a4] t (0,0)))):w.cell? ⟨g,0,none⟩=some a0∧w.cell? ⟨g,1,none⟩=some a1∧w.cell? ⟨g,2,none⟩=some a2∧w.cell? ⟨g,3,none⟩=some a3∧w.cell? ⟨g,4,none⟩=some a4:=⟨(blk_cell h.out 0).trans rfl,(blk_cell h.out 1).trans rfl,(blk_cell h.out 2).trans rfl,(blk_cell h.out 3).trans rfl,(blk_cell h.out 4).trans rfl⟩
theorem bc8 (h:Aside0 (w.heap[g]?=some (.cells #[a0,a1,a2,a3,a4,a5,a6,a7] t (0,0)))):w.cell? ⟨g,0,none⟩=some a0∧w.cell? ⟨g,1,none⟩=some a1∧w.cell? ⟨g,2,none⟩=some a2∧w.cell? ⟨g,3,none⟩=some a3∧w.cell? ⟨g,4,none⟩=some a4∧w.cell? ⟨g,5,none⟩=some a5∧w.cell? ⟨g,6,none⟩=some a6∧w.cell? ⟨g,7,none⟩=some a7:=⟨(blk_cell h.out 0).trans rfl,(blk_cell h.out 1).trans rfl,(blk_cell h.out 2).trans rfl,(blk_cell h.out 3).trans rfl,(blk_cell h.out 4).trans rfl,(blk_cell h.out 5).trans rfl,(blk_cell h.out 6).trans rfl,(blk_cell h.out 7).trans rfl⟩
end
end Go.Proofs.YtahambloheoebaaGreatDoorX
namespace Go.Proofs.YtahambloheoebaaGreatDoor.P
open Go.Proofs.YtahambloheoebaaGreatDoorX
open Go.RowKit Go.Proofs.YtahambloheoebaaGreatDoorW.PrintWords Go.Proofs.YtahambloheoebaaGreatDoorW.PrintLast Go.Proofs.YtahambloheoebaaGreatDoorW.PrintMore
attribute [local go_sem] max2_int min2_int max_two min_two max_three min_three max_four min_four
set_option linter.unusedVariables false
set_option linter.unusedSimpArgs false
theorem eqA128 (d:Nat) (w:World) (x0 y0:Int) (x1 y1:Int) (x2 y2:Int):
  (Op.equalIn (d+2) 128 (.agg #[.int .i64 x0,.int .i64 x1,.int .i64 x2]) (.agg #[.int .i64 y0,.int .i64 y1,.int .i64 y2])).run Tryz.prog w=.ok (x0==y0&&(x1==y1&&(x2==y2))) w:=by
 refine eqA_of Tryz.underlying128 (by kernel_rfl) ?_;refine eqf_cons (by rfl) (by go_simp;rfl) (by go_simp;rfl) (by go_simp) ?_;refine eqf_cons (by rfl) (by go_simp;rfl) (by go_simp;rfl) (by go_simp) ?_;exact eqf_last (by rfl) (by go_simp;rfl) (by go_simp;rfl) (by go_simp)
end Go.Proofs.YtahambloheoebaaGreatDoor.P
namespace Go.Proofs.YtahambloheoebaaGreatDoor.P
open Go.Proofs.YtahambloheoebaaGreatDoorX
open Go.RowKit Go.Proofs.YtahambloheoebaaGreatDoorW.PrintWords Go.Proofs.YtahambloheoebaaGreatDoorW.PrintLast Go.Proofs.YtahambloheoebaaGreatDoorW.PrintMore
attribute [local go_sem] max2_int min2_int max_two min_two max_three min_three max_four min_four
set_option linter.unusedVariables false
set_option linter.unusedSimpArgs false
theorem eqA80 (d:Nat) (w:World) (x0 y0:Int) (x1 y1:Int) (x2 y2:ByteArray):
  (Op.equalIn (d+2) 80 (.agg #[.int .i64 x0,.int .i64 x1,.string x2]) (.agg #[.int .i64 y0,.int .i64 y1,.string y2])).run Tryz.prog w=.ok (x0==y0&&(x1==y1&&(x2.toList==y2.toList))) w:=by
 refine eqA_of Tryz.underlying80 (by kernel_rfl) ?_;refine eqf_cons (by rfl) (by go_simp;rfl) (by go_simp;rfl) (by go_simp) ?_;refine eqf_cons (by rfl) (by go_simp;rfl) (by go_simp;rfl) (by go_simp) ?_;exact eqf_last (by rfl) (by go_simp;rfl) (by go_simp;rfl) (by go_simp)
end Go.Proofs.YtahambloheoebaaGreatDoor.P
namespace Go.Proofs.YtahambloheoebaaGreatDoor.P
open Go.Proofs.YtahambloheoebaaGreatDoorX
open Go.RowKit Go.Proofs.YtahambloheoebaaGreatDoorW.PrintWords Go.Proofs.YtahambloheoebaaGreatDoorW.PrintLast Go.Proofs.YtahambloheoebaaGreatDoorW.PrintMore
attribute [local go_sem] max2_int min2_int max_two min_two max_three min_three max_four min_four
set_option linter.unusedVariables false
set_option linter.unusedSimpArgs false
attribute [local go_sem high] eqA80
mutual
def spec_l1GoodSym.j0:Nat→ByteArray→Bool→Option (Bool)
 | 0,_,_=>none
 | k+1,x0,x22=>if x22=true then (some false) else (spec_l1GoodSym.l0 k x0 0)
def spec_l1GoodSym.l0:Nat→ByteArray→Int→Option (Bool)
 | 0,_,_=>none
 | k+1,x0,x3=>if x3<(x0.size:Int) then (if 0≤x3 then (if (bt x0 x3)≥97 then (if (bt x0 x3)≤122 then (spec_l1GoodSym.l0 k x0 (wrap64 (x3+1))) else (if (bt x0 x3)≥48 then (if (bt x0 x3)≤57 then (spec_l1GoodSym.l0 k x0 (wrap64 (x3+1))) else (if ((bt x0 x3)=45) then (spec_l1GoodSym.l0 k x0 (wrap64 (x3+1))) else (some false))) else (if ((bt x0 x3)=45) then (spec_l1GoodSym.l0 k x0 (wrap64 (x3+1))) else (some false)))) else (if (bt x0 x3)≥48 then (if (bt x0 x3)≤57 then (spec_l1GoodSym.l0 k x0 (wrap64 (x3+1))) else (if ((bt x0 x3)=45) then (spec_l1GoodSym.l0 k x0 (wrap64 (x3+1))) else (some false))) else (if ((bt x0 x3)=45) then (spec_l1GoodSym.l0 k x0 (wrap64 (x3+1))) else (some false)))) else (none)) else (some true)
end
def spec_l1GoodSym.f (k:Nat) (a0:ByteArray):Option (Bool):=if (a0.size:Int)<1 then (spec_l1GoodSym.j0 k a0 true) else (if (a0.size:Int)>20 then (spec_l1GoodSym.j0 k a0 true) else (if 0<(a0.size:Int) then (if (bt a0 0)<97 then (spec_l1GoodSym.j0 k a0 true) else (spec_l1GoodSym.j0 k a0 (decide ((bt a0 0)>122)))) else (none)))
theorem spec_l1GoodSym.mono_l:∀k,(∀y0 y1,LeO (spec_l1GoodSym.j0 k y0 y1) (spec_l1GoodSym.j0 (k+1) y0 y1))∧(∀y0 y1,LeO (spec_l1GoodSym.l0 k y0 y1) (spec_l1GoodSym.l0 (k+1) y0 y1))
 | 0=>⟨fun _ _ r h=>by simp [spec_l1GoodSym.j0] at h,fun _ _ r h=>by simp [spec_l1GoodSym.l0] at h⟩
 | k+1=>by
  obtain ⟨ih0,ih1⟩:=spec_l1GoodSym.mono_l k;refine ⟨?_,?_⟩
  ·intro y0 y1;unfold spec_l1GoodSym.j0
   repeat' with_reducible first|apply ih0|apply ih1|apply LeO.refl|apply LeO.none|refine LeO.ite ?_ ?_|refine LeO.bind ?_ (fun _=>?_)
  ·intro y0 y1;unfold spec_l1GoodSym.l0
   repeat' with_reducible first|apply ih0|apply ih1|apply LeO.refl|apply LeO.none|refine LeO.ite ?_ ?_|refine LeO.bind ?_ (fun _=>?_)
theorem spec_l1GoodSym.mono:∀a0 k,LeO (spec_l1GoodSym.f k a0) (spec_l1GoodSym.f (k+1) a0):=by
 intro a0 k;obtain ⟨ih0,ih1⟩:=spec_l1GoodSym.mono_l k;unfold spec_l1GoodSym.f
 repeat' with_reducible first|apply ih0|apply ih1|apply LeO.refl|apply LeO.none|refine LeO.ite ?_ ?_|refine LeO.bind ?_ (fun _=>?_)
theorem u39e_3 {p:Prop} (h:p:=by
 go_wp2;go_ret;exact ⟨by first|rfl|(simp;done)|(simp [*];done),by repeat (first|exact Drawn0.refl _|apply Drawn0.step)⟩):p:=h
theorem u39e_2 {p:Prop} (h:p:=by
 exact ⟨_,(true),mq_,H',⟨by first|omega|exact Nat.le_refl _⟩,by repeat (first|exact Drawn0.refl _|apply Drawn0.step)⟩):p:=h
theorem u39e_0 {p:Prop} (h:p:=by
 have H':=a_ H;clear H;have p12:0≤(x3_2:Int):=md_
 have q12:x3_2<(a0.size:Int):=md_
 have hx12:=bt_at a0 x3_2;replace p12:=eq_true p12;replace q12:=eq_true q12;go_wp2;go_roundg k2
 case measure=>
  have:=HJ1.out
  have:=HK2.out
  omega
 case rel=>exact ⟨(wrap64 (x3_2+1)),mq_,H',⟨by have:=HJ1.out;have:=HK2.out;omega⟩,by repeat (first|exact Drawn0.refl _|apply Drawn0.step)⟩):p:=h
theorem u39e_1 {p:Prop} (h:p:=by
 obtain rfl:=oi_ H;have p12:0≤(x3_2:Int):=md_
 have q12:x3_2<(a0.size:Int):=md_
 have hx12:=bt_at a0 x3_2;replace p12:=eq_true p12;replace q12:=eq_true q12;exact u39e_3):p:=h
set_option maxHeartbeats 8000000 in
set_option maxRecDepth 100000 in
theorem spec_l1GoodSym.calls (k:Nat) (a0:ByteArray) (r:Bool) (w:World) (h:spec_l1GoodSym.f k a0=some r):
  Calls Tryz.prog 104 #[.string a0] w fun e w'=>e=.returned (.bool r)∧Drawn0 w w':=by
 have H:=h;unfold spec_l1GoodSym.f at H
 clear h;have HC2:=a_ H;clear H;go_enter Tryz.func104,Tryz.ntmps104;go_upto_region 1 with (fail);go_cut [22] (fun v22 wc=>∃(kq:Nat) (x22_1:Bool),v22=.bool x22_1∧Aside0 (spec_l1GoodSym.j0 kq a0 x22_1=some r)∧Aside0 (kq≤k)∧Drawn0 w wc)
 case first=>
  have H:=HC2.out;clear HC2;by_cases c3:(a0.size:Int)<1
  ·rw [if_pos c3] at H;have c3b0:=ct_ c3;have c3b1:decide (a0.size<1)=true:=decide_eq_true (by omega)
   clear c3;(first|rw [c3b0]|(simp only [i64_w,i32_w];rw [c3b0])|skip);have H':=a_ H;clear H;go_wp2;go_meet
   case rel=>exact u39e_2
  ·rw [if_neg c3] at H;have c3b0:=cf_ c3;have c3b1:decide (a0.size<1)=false:=decide_eq_false (by omega)
   clear c3;(first|rw [c3b0]|(simp only [i64_w,i32_w];rw [c3b0])|skip);by_cases c4:(a0.size:Int)>20
   ·rw [if_pos c4] at H;have c4b0:=ct_ c4;have c4b1:decide (20<a0.size)=true:=decide_eq_true (by omega)
    clear c4;have H':=a_ H;clear H;go_wp2;go_meet
    case rel=>exact u39e_2
   ·rw [if_neg c4] at H;have c4b0:=cf_ c4;have c4b1:decide (20<a0.size)=false:=decide_eq_false (by omega)
    clear c4;by_cases c5:0<(a0.size:Int)
    case neg=>
     rw [if_neg c5] at H;cases H
    rw [if_pos c5] at H;have c5b0:=ct_ c5;have c5b1:decide (0<a0.size)=true:=decide_eq_true (by omega)
    clear c5;by_cases c7:(bt a0 0)<97
    ·rw [if_pos c7] at H;have c7b0:=ct_ c7;clear c7;have H':=a_ H;clear H;have p6:0≤(0:Int):=(by omega)
     have q6:0<a0.size:=(by have:(0:Int)<(a0.size:Int):=md_;omega)
     have hx6:∀h:0<a0.size,((a0[0]'h).toNat:Int)=bt a0 0:=bt_at a0 0
     clear p6;have qi6:(0<(a0.size:Int))=True:=eq_true (md_)
     replace q6:=eq_true q6;go_wp2;go_meet
     case rel=>exact u39e_2
    ·rw [if_neg c7] at H;have c7b0:=cf_ c7;clear c7;have H':=a_ H;clear H;have p6:0≤(0:Int):=(by omega)
     have q6:0<a0.size:=(by have:(0:Int)<(a0.size:Int):=md_;omega)
     have hx6:∀h:0<a0.size,((a0[0]'h).toNat:Int)=bt a0 0:=bt_at a0 0
     clear p6;have qi6:(0<(a0.size:Int))=True:=eq_true (md_)
     replace q6:=eq_true q6;have p8:0≤(0:Int):=(by omega)
     have q8:0<a0.size:=(by have:(0:Int)<(a0.size:Int):=md_;omega)
     have hx8:∀h:0<a0.size,((a0[0]'h).toNat:Int)=bt a0 0:=bt_at a0 0
     clear p8;have qi8:(0<(a0.size:Int))=True:=eq_true (md_)
     replace q8:=eq_true q8;go_wp2;go_meet
     case rel=>exact ⟨_,(decide ((bt a0 0)>122)),mq_,H',⟨by first|omega|exact Nat.le_refl _⟩,by repeat (first|exact Drawn0.refl _|apply Drawn0.step)⟩
 clear HC2;obtain ⟨kq,x22_1,rfl,HA,HJ1,⟨mc1,rfl⟩⟩:=hcut;obtain _|kj1:=kq
 ·exact absurd HA.out (by simp [spec_l1GoodSym.j0])
 have H:=HA.out;clear HA;simp only [spec_l1GoodSym.j0] at H;by_cases c9:x22_1=true
 ·subst c9;rw [if_pos rfl] at H;obtain rfl:=oi_ H;exact u39e_3
 ·replace c9:=Bool.eq_false_iff.mpr c9;subst c9;rw [if_neg (show ¬(false=true) by decide)] at H;have H':=a_ H;clear H;go_wp2;go_loopg [3] kj1 (fun kq v3 w'=>∃(x3_2:Int),v3=.int .i64 x3_2∧Aside0 (spec_l1GoodSym.l0 kq a0 x3_2=some r)∧Aside0 (kq≤kj1)∧Drawn0 w w')
  case atStart=>exact ⟨(0),mq_,H',⟨Nat.le_refl _⟩,by repeat (first|exact Drawn0.refl _|apply Drawn0.step)⟩
  clear H';(try clear c9);obtain ⟨x3_2,rfl,HA,HK2,⟨m2,rfl⟩⟩:=hrel;obtain _|k2:=gk
  ·exact absurd HA.out (by simp [spec_l1GoodSym.l0])
  have H:=HA.out;clear HA;simp only [spec_l1GoodSym.l0] at H;by_cases c10:x3_2<(a0.size:Int)
  ·rw [if_pos c10] at H;have c10b0:=ct_ c10;clear c10;by_cases c11:0≤x3_2
   case neg=>
    rw [if_neg c11] at H;cases H
   rw [if_pos c11] at H;have c11b0:=ct_ c11;clear c11;by_cases c13:(bt a0 x3_2)≥97
   ·rw [if_pos c13] at H;have c13b0:=ct_ c13;clear c13;by_cases c14:(bt a0 x3_2)≤122
    ·rw [if_pos c14] at H;have c14b0:=ct_ c14;clear c14;exact u39e_0
    ·rw [if_neg c14] at H;have c14b0:=cf_ c14;clear c14;by_cases c15:(bt a0 x3_2)≥48
     ·rw [if_pos c15] at H;have c15b0:=ct_ c15;clear c15;by_cases c16:(bt a0 x3_2)≤57
      ·rw [if_pos c16] at H;have c16b0:=ct_ c16;clear c16;exact u39e_0
      ·rw [if_neg c16] at H;have c16b0:=cf_ c16;clear c16;by_cases c17:((bt a0 x3_2)=45)
       ·rw [if_pos c17] at H;obtain ⟨c17b0,c17b1⟩:=bq_ c17;clear c17;exact u39e_0
       ·rw [if_neg c17] at H;obtain ⟨c17b0,c17b1⟩:=bn_ c17;exact u39e_1
     ·rw [if_neg c15] at H;have c15b0:=cf_ c15;clear c15;by_cases c18:((bt a0 x3_2)=45)
      ·rw [if_pos c18] at H;obtain ⟨c18b0,c18b1⟩:=bq_ c18;clear c18;exact u39e_0
      ·rw [if_neg c18] at H;obtain ⟨c18b0,c18b1⟩:=bn_ c18;exact u39e_1
   ·rw [if_neg c13] at H;have c13b0:=cf_ c13;clear c13;by_cases c19:(bt a0 x3_2)≥48
    ·rw [if_pos c19] at H;have c19b0:=ct_ c19;clear c19;by_cases c20:(bt a0 x3_2)≤57
     ·rw [if_pos c20] at H;have c20b0:=ct_ c20;clear c20;exact u39e_0
     ·rw [if_neg c20] at H;have c20b0:=cf_ c20;clear c20;by_cases c21:((bt a0 x3_2)=45)
      ·rw [if_pos c21] at H;obtain ⟨c21b0,c21b1⟩:=bq_ c21;clear c21;exact u39e_0
      ·rw [if_neg c21] at H;obtain ⟨c21b0,c21b1⟩:=bn_ c21;exact u39e_1
    ·rw [if_neg c19] at H;have c19b0:=cf_ c19;clear c19;by_cases c22:((bt a0 x3_2)=45)
     ·rw [if_pos c22] at H;obtain ⟨c22b0,c22b1⟩:=bq_ c22;clear c22;exact u39e_0
     ·rw [if_neg c22] at H;obtain ⟨c22b0,c22b1⟩:=bn_ c22;exact u39e_1
  ·rw [if_neg c10] at H;have c10b0:=cf_ c10;clear c10;obtain rfl:=oi_ H;exact u39e_3
def spec_l2GoodCls.f (k:Nat) (a0:ByteArray):Option (Bool):=(spec_l1GoodSym.f k a0).bind fun t124=>(if t124=true then (some (a0.toList != ([110,111,116]:List UInt8))) else (some false))
theorem spec_l2GoodCls.mono:∀a0 k,LeO (spec_l2GoodCls.f k a0) (spec_l2GoodCls.f (k+1) a0):=by
 intro a0 k;unfold spec_l2GoodCls.f
 repeat' with_reducible first|apply spec_l1GoodSym.mono|apply LeO.refl|apply LeO.none|refine LeO.ite ?_ ?_|refine LeO.bind ?_ (fun _=>?_)
theorem u39e_4 {p:Prop} (h:p:=by
 obtain rfl:=oi_ H;go_enter Tryz.func72,Tryz.ntmps72;go_wp2_with (first|((with_reducible refine gate_callee (f:=104) rfl ?_);refine goesL_ (some 4) rfl rfl Tryz.func104 (by kernel_rfl) rfl #[.string a0] rfl mw_ ?_;(with_reducible refine (spec_l1GoodSym.calls k a0 true _ A2.out).mono ?_);rintro e w' ⟨rfl,⟨nd,rfl⟩⟩;refine ⟨_,rfl,?_⟩)|((with_reducible refine gate_callee (f:=104) rfl ?_);refine goesL_ (some 4) rfl rfl Tryz.func104 (by kernel_rfl) rfl #[.string a0] rfl mw_ ?_;(with_reducible refine (spec_l1GoodSym.calls k a0 false _ A2.out).mono ?_);rintro e w' ⟨rfl,⟨nd,rfl⟩⟩;refine ⟨_,rfl,?_⟩));go_ret;exact ⟨by first|rfl|(simp;done)|(simp [*];done),by repeat (first|exact Drawn0.refl _|apply Drawn0.step)⟩):p:=h
set_option maxHeartbeats 8000000 in
set_option maxRecDepth 100000 in
theorem spec_l2GoodCls.calls (k:Nat) (a0:ByteArray) (r:Bool) (w:World) (h:spec_l2GoodCls.f k a0=some r):
  Calls Tryz.prog 72 #[.string a0] w fun e w'=>e=.returned (.bool r)∧Drawn0 w w':=by
 have H:=h;unfold spec_l2GoodCls.f at H
 clear h;obtain ⟨t124,A2,H⟩:=ob_ H;by_cases c3:t124=true
 ·subst c3;rw [if_pos rfl] at H;exact u39e_4
 ·replace c3:=Bool.eq_false_iff.mpr c3;subst c3;rw [if_neg (show ¬(false=true) by decide)] at H;exact u39e_4
def spec_l2Zero.f (a0_0:Int) (a0_1:Int) (a0_2:ByteArray):Option (Bool):=some (a0_0==0&&(a0_1==0&&(a0_2.toList==([]:List UInt8))))
set_option maxHeartbeats 8000000 in
set_option maxRecDepth 100000 in
theorem spec_l2Zero.calls (a0_0:Int) (a0_1:Int) (a0_2:ByteArray) (r:Bool) (w:World) (h:spec_l2Zero.f a0_0 a0_1 a0_2=some r):
  Calls Tryz.prog 122 #[.agg #[.int .i64 a0_0,.int .i64 a0_1,.string a0_2]] w fun e w'=>e=.returned (.bool r)∧Below w.heap.size w w':=by
 have hu80:=Tryz.underlying80;have HB:=a_ (Below.refl w.heap.size w);have H:(some (a0_0==0&&(a0_1==0&&(a0_2.toList==([]:List UInt8)))))=some r:=h
 clear h;obtain rfl:=oi_ H;go_enter Tryz.func122,Tryz.ntmps122;go_wp2_with (first|((with_reducible refine gate_dst (N:=1) rfl ?_);refine bh_ 1 #[.int .i64 a0_0,.int .i64 a0_1,.string a0_2] 80 HB ?_;intro gb125 hg wx BK125 GE125 hb;replace HB:=ms_ HB hb;clear hb hg;replace hz125:=cz3 BK125));go_ret;exact ⟨me_,mb_ HB⟩
def spec_l1GoodVal.f (k:Nat) (a0_0:Int) (a0_1:Int) (a0_2:ByteArray):Option (Bool):=if a0_0=0 then (if a0_2.toList=([]:List UInt8) then (some true) else (if a0_0=1 then (if a0_1=0 then ((spec_l1GoodSym.f k a0_2).bind fun t127=>(some t127)) else (some false)) else (some false))) else (if a0_0=1 then (if a0_1=0 then ((spec_l1GoodSym.f k a0_2).bind fun t128=>(some t128)) else (some false)) else (some false))
theorem spec_l1GoodVal.mono:∀a0 a1 a2 k,LeO (spec_l1GoodVal.f k a0 a1 a2) (spec_l1GoodVal.f (k+1) a0 a1 a2):=by
 intro a0 a1 a2 k;unfold spec_l1GoodVal.f
 repeat' with_reducible first|apply spec_l1GoodSym.mono|apply LeO.refl|apply LeO.none|refine LeO.ite ?_ ?_|refine LeO.bind ?_ (fun _=>?_)
theorem u39e_5 {p:Prop} (h:p:=by
 obtain rfl:=oi_ H;go_enter Tryz.func123,Tryz.ntmps123;go_wp2_with (first|((with_reducible refine gate_dst (N:=1) rfl ?_);refine bh_ 1 #[.int .i64 a0_0,.int .i64 a0_1,.string a0_2] 80 HB ?_;intro gb126 hg wx BK126 GE126 hb;replace HB:=ms_ HB hb;clear hb hg;replace hz126:=cz3 BK126)|(go_at_call 104;(with_reducible refine (spec_l1GoodSym.calls k a0_2 t127 _ A8.out).mono ?_);rintro e w' ⟨rfl,⟨nd,rfl⟩⟩)|(go_at_call 104;(with_reducible refine (spec_l1GoodSym.calls k a0_2 t128 _ A17.out).mono ?_);rintro e w' ⟨rfl,⟨nd,rfl⟩⟩));go_ret;exact ⟨me_,mb_ HB⟩):p:=h
set_option maxHeartbeats 8000000 in
set_option maxRecDepth 100000 in
theorem spec_l1GoodVal.calls (k:Nat) (a0_0:Int) (a0_1:Int) (a0_2:ByteArray) (r:Bool) (w:World) (h:spec_l1GoodVal.f k a0_0 a0_1 a0_2=some r):
  Calls Tryz.prog 123 #[.agg #[.int .i64 a0_0,.int .i64 a0_1,.string a0_2]] w fun e w'=>e=.returned (.bool r)∧Below w.heap.size w w':=by
 have hu80:=Tryz.underlying80;have HB:=a_ (Below.refl w.heap.size w);have H:=h;unfold spec_l1GoodVal.f at H
 clear h;by_cases c2:a0_0=0
 ·rw [if_pos c2] at H;obtain ⟨c2b0,c2b1⟩:=bq_ c2;clear c2;by_cases c3:a0_2.toList=([]:List UInt8)
  ·rw [if_pos c3] at H;obtain ⟨c3b0,c3b1⟩:=bq_ c3;clear c3;exact u39e_5
  ·rw [if_neg c3] at H;obtain ⟨c3b0,c3b1⟩:=bn_ c3;by_cases c6:a0_0=1
   ·rw [if_pos c6] at H;obtain ⟨c6b0,c6b1⟩:=bq_ c6;clear c6;by_cases c7:a0_1=0
    ·rw [if_pos c7] at H;obtain ⟨c7b0,c7b1⟩:=bq_ c7;clear c7;obtain ⟨t127,A8,H⟩:=ob_ H;exact u39e_5
    ·rw [if_neg c7] at H;obtain ⟨c7b0,c7b1⟩:=bn_ c7;exact u39e_5
   ·rw [if_neg c6] at H;obtain ⟨c6b0,c6b1⟩:=bn_ c6;exact u39e_5
 ·rw [if_neg c2] at H;obtain ⟨c2b0,c2b1⟩:=bn_ c2;by_cases c15:a0_0=1
  ·rw [if_pos c15] at H;obtain ⟨c15b0,c15b1⟩:=bq_ c15;clear c15;by_cases c16:a0_1=0
   ·rw [if_pos c16] at H;obtain ⟨c16b0,c16b1⟩:=bq_ c16;clear c16;obtain ⟨t128,A17,H⟩:=ob_ H;exact u39e_5
   ·rw [if_neg c16] at H;obtain ⟨c16b0,c16b1⟩:=bn_ c16;exact u39e_5
  ·rw [if_neg c15] at H;obtain ⟨c15b0,c15b1⟩:=bn_ c15;exact u39e_5
end Go.Proofs.YtahambloheoebaaGreatDoor.P
namespace Go.Proofs.YtahambloheoebaaGreatDoor.P
open Go.Proofs.YtahambloheoebaaGreatDoorX
open Go.RowKit Go.Proofs.YtahambloheoebaaGreatDoorW.PrintWords Go.Proofs.YtahambloheoebaaGreatDoorW.PrintLast Go.Proofs.YtahambloheoebaaGreatDoorW.PrintMore
attribute [local go_sem] max2_int min2_int max_two min_two max_three min_three max_four min_four
set_option linter.unusedVariables false
set_option linter.unusedSimpArgs false
def spec_l2GoodTerm.f (k:Nat) (a0_0:Int) (a0_1:Int) (a0_2:ByteArray) (a0_3:Int) (a0_4:Int) (a0_5:ByteArray):Option (Bool):=if a0_0=0 then (if a0_1=0 then (if a0_2.toList=([]:List UInt8) then ((spec_l2Zero.f a0_3 a0_4 a0_5).bind fun t130=>(some t130)) else (some false)) else (some false)) else (if a0_0=1 then (if a0_1=0 then (if a0_2.toList=([]:List UInt8) then ((spec_l1GoodVal.f k a0_3 a0_4 a0_5).bind fun t131=>(some t131)) else (some false)) else (some false)) else (if a0_0=2 then (if a0_1=0 then ((spec_l1GoodSym.f k a0_2).bind fun t132=>(if t132=true then ((spec_l2Zero.f a0_3 a0_4 a0_5).bind fun t133=>(some t133)) else (some false))) else (some false)) else (if a0_0=3 then (if a0_1≥1 then (if a0_1≤6 then (if a0_2.toList=([]:List UInt8) then ((spec_l1GoodVal.f k a0_3 a0_4 a0_5).bind fun t134=>(if t134=true then (some true) else ((spec_l1GoodSym.f k a0_2).bind fun t135=>(if t135=true then ((spec_l2Zero.f a0_3 a0_4 a0_5).bind fun t136=>(some t136)) else (some false))))) else ((spec_l1GoodSym.f k a0_2).bind fun t137=>(if t137=true then ((spec_l2Zero.f a0_3 a0_4 a0_5).bind fun t138=>(some t138)) else (some false)))) else (some false)) else (some false)) else (some false))))
theorem spec_l2GoodTerm.mono:∀a0 a1 a2 a3 a4 a5 k,LeO (spec_l2GoodTerm.f k a0 a1 a2 a3 a4 a5) (spec_l2GoodTerm.f (k+1) a0 a1 a2 a3 a4 a5):=by
 intro a0 a1 a2 a3 a4 a5 k;unfold spec_l2GoodTerm.f
 repeat' with_reducible first|apply spec_l1GoodSym.mono|apply spec_l1GoodVal.mono|apply LeO.refl|apply LeO.none|refine LeO.ite ?_ ?_|refine LeO.bind ?_ (fun _=>?_)
theorem uf0b_0 {p:Prop} (h:p:=by
 obtain rfl:=oi_ H;go_enter Tryz.func73,Tryz.ntmps73;go_wp2_with (first|((with_reducible refine gate_dst (N:=1) rfl ?_);refine bh_ 1 #[.int .i64 a0_0,.int .i64 a0_1,.string a0_2,.int .i64 a0_3,.int .i64 a0_4,.string a0_5] 86 HB ?_;intro gb129 hg wx BK129 GE129 hb;replace HB:=ms_ HB hb;clear hb hg;replace hz129:=cz6 BK129)|(go_at_call 122;(with_reducible refine (spec_l2Zero.calls a0_3 a0_4 a0_5 t130 _ A5.out).mono ?_);rintro e wx ⟨rfl,hb⟩;replace BK129:=mk_ BK129 hb;replace HB:=ms_ HB hb;(try clear hb))|(go_at_call 123;(with_reducible refine (spec_l1GoodVal.calls k a0_3 a0_4 a0_5 t131 _ A16.out).mono ?_);rintro e wx ⟨rfl,hb⟩;replace BK129:=mk_ BK129 hb;replace HB:=ms_ HB hb;(try clear hb))|(go_at_call 104;(with_reducible refine (spec_l1GoodSym.calls k a0_2 true _ A26.out).mono ?_);rintro e w' ⟨rfl,⟨nd,rfl⟩⟩)|(go_at_call 122;(with_reducible refine (spec_l2Zero.calls a0_3 a0_4 a0_5 t133 _ A28.out).mono ?_);rintro e wx ⟨rfl,hb⟩;replace BK129:=mk_ BK129 hb;replace HB:=ms_ HB hb;(try clear hb))|(go_at_call 104;(with_reducible refine (spec_l1GoodSym.calls k a0_2 false _ A26.out).mono ?_);rintro e w' ⟨rfl,⟨nd,rfl⟩⟩)|(go_at_call 123;(with_reducible refine (spec_l1GoodVal.calls k a0_3 a0_4 a0_5 true _ A40.out).mono ?_);rintro e wx ⟨rfl,hb⟩;replace BK129:=mk_ BK129 hb;replace HB:=ms_ HB hb;(try clear hb))|(go_at_call 123;(with_reducible refine (spec_l1GoodVal.calls k a0_3 a0_4 a0_5 false _ A40.out).mono ?_);rintro e wx ⟨rfl,hb⟩;replace BK129:=mk_ BK129 hb;replace HB:=ms_ HB hb;(try clear hb);replace hz129:=cz6 BK129)|(go_at_call 104;(with_reducible refine (spec_l1GoodSym.calls k a0_2 true _ A45.out).mono ?_);rintro e w' ⟨rfl,⟨nd,rfl⟩⟩)|(go_at_call 122;(with_reducible refine (spec_l2Zero.calls a0_3 a0_4 a0_5 t136 _ A47.out).mono ?_);rintro e wx ⟨rfl,hb⟩;replace BK129:=mk_ BK129 hb;replace HB:=ms_ HB hb;(try clear hb))|(go_at_call 104;(with_reducible refine (spec_l1GoodSym.calls k a0_2 false _ A45.out).mono ?_);rintro e w' ⟨rfl,⟨nd,rfl⟩⟩)|(go_at_call 104;(with_reducible refine (spec_l1GoodSym.calls k a0_2 true _ A57.out).mono ?_);rintro e w' ⟨rfl,⟨nd,rfl⟩⟩)|(go_at_call 122;(with_reducible refine (spec_l2Zero.calls a0_3 a0_4 a0_5 t138 _ A59.out).mono ?_);rintro e wx ⟨rfl,hb⟩;replace BK129:=mk_ BK129 hb;replace HB:=ms_ HB hb;(try clear hb))|(go_at_call 104;(with_reducible refine (spec_l1GoodSym.calls k a0_2 false _ A57.out).mono ?_);rintro e w' ⟨rfl,⟨nd,rfl⟩⟩));go_ret;exact ⟨me_,mb_ HB⟩):p:=h
set_option maxHeartbeats 8000000 in
set_option maxRecDepth 100000 in
theorem spec_l2GoodTerm.calls (k:Nat) (a0_0:Int) (a0_1:Int) (a0_2:ByteArray) (a0_3:Int) (a0_4:Int) (a0_5:ByteArray) (r:Bool) (w:World) (h:spec_l2GoodTerm.f k a0_0 a0_1 a0_2 a0_3 a0_4 a0_5=some r):
  Calls Tryz.prog 73 #[.agg #[.int .i64 a0_0,.int .i64 a0_1,.string a0_2,.int .i64 a0_3,.int .i64 a0_4,.string a0_5]] w fun e w'=>e=.returned (.bool r)∧Below w.heap.size w w':=by
 have hu86:=Tryz.underlying86;have hu80:=Tryz.underlying80;have HB:=a_ (Below.refl w.heap.size w);have H:=h;unfold spec_l2GoodTerm.f at H
 clear h;by_cases c2:a0_0=0
 ·rw [if_pos c2] at H;obtain ⟨c2b0,c2b1⟩:=bq_ c2;clear c2;by_cases c3:a0_1=0
  ·rw [if_pos c3] at H;obtain ⟨c3b0,c3b1⟩:=bq_ c3;clear c3;by_cases c4:a0_2.toList=([]:List UInt8)
   ·rw [if_pos c4] at H;obtain ⟨c4b0,c4b1⟩:=bq_ c4;clear c4;obtain ⟨t130,A5,H⟩:=ob_ H;exact uf0b_0
   ·rw [if_neg c4] at H;obtain ⟨c4b0,c4b1⟩:=bn_ c4;exact uf0b_0
  ·rw [if_neg c3] at H;obtain ⟨c3b0,c3b1⟩:=bn_ c3;exact uf0b_0
 ·rw [if_neg c2] at H;obtain ⟨c2b0,c2b1⟩:=bn_ c2;by_cases c13:a0_0=1
  ·rw [if_pos c13] at H;obtain ⟨c13b0,c13b1⟩:=bq_ c13;clear c13;by_cases c14:a0_1=0
   ·rw [if_pos c14] at H;obtain ⟨c14b0,c14b1⟩:=bq_ c14;clear c14;by_cases c15:a0_2.toList=([]:List UInt8)
    ·rw [if_pos c15] at H;obtain ⟨c15b0,c15b1⟩:=bq_ c15;clear c15;obtain ⟨t131,A16,H⟩:=ob_ H;exact uf0b_0
    ·rw [if_neg c15] at H;obtain ⟨c15b0,c15b1⟩:=bn_ c15;exact uf0b_0
   ·rw [if_neg c14] at H;obtain ⟨c14b0,c14b1⟩:=bn_ c14;exact uf0b_0
  ·rw [if_neg c13] at H;obtain ⟨c13b0,c13b1⟩:=bn_ c13;by_cases c24:a0_0=2
   ·rw [if_pos c24] at H;obtain ⟨c24b0,c24b1⟩:=bq_ c24;clear c24;by_cases c25:a0_1=0
    ·rw [if_pos c25] at H;obtain ⟨c25b0,c25b1⟩:=bq_ c25;clear c25;obtain ⟨t132,A26,H⟩:=ob_ H;by_cases c27:t132=true
     ·subst c27;rw [if_pos rfl] at H;obtain ⟨t133,A28,H⟩:=ob_ H;exact uf0b_0
     ·replace c27:=Bool.eq_false_iff.mpr c27;subst c27;rw [if_neg (show ¬(false=true) by decide)] at H;exact uf0b_0
    ·rw [if_neg c25] at H;obtain ⟨c25b0,c25b1⟩:=bn_ c25;exact uf0b_0
   ·rw [if_neg c24] at H;obtain ⟨c24b0,c24b1⟩:=bn_ c24;by_cases c36:a0_0=3
    ·rw [if_pos c36] at H;obtain ⟨c36b0,c36b1⟩:=bq_ c36;clear c36;by_cases c37:a0_1≥1
     ·rw [if_pos c37] at H;have c37b0:=ct_ c37;clear c37;by_cases c38:a0_1≤6
      ·rw [if_pos c38] at H;have c38b0:=ct_ c38;clear c38;by_cases c39:a0_2.toList=([]:List UInt8)
       ·rw [if_pos c39] at H;obtain ⟨c39b0,c39b1⟩:=bq_ c39;clear c39;obtain ⟨t134,A40,H⟩:=ob_ H;by_cases c41:t134=true
        ·subst c41;rw [if_pos rfl] at H;exact uf0b_0
        ·replace c41:=Bool.eq_false_iff.mpr c41;subst c41;rw [if_neg (show ¬(false=true) by decide)] at H;obtain ⟨t135,A45,H⟩:=ob_ H;by_cases c46:t135=true
         ·subst c46;rw [if_pos rfl] at H;obtain ⟨t136,A47,H⟩:=ob_ H;exact uf0b_0
         ·replace c46:=Bool.eq_false_iff.mpr c46;subst c46;rw [if_neg (show ¬(false=true) by decide)] at H;exact uf0b_0
       ·rw [if_neg c39] at H;obtain ⟨c39b0,c39b1⟩:=bn_ c39;obtain ⟨t137,A57,H⟩:=ob_ H;by_cases c58:t137=true
        ·subst c58;rw [if_pos rfl] at H;obtain ⟨t138,A59,H⟩:=ob_ H;exact uf0b_0
        ·replace c58:=Bool.eq_false_iff.mpr c58;subst c58;rw [if_neg (show ¬(false=true) by decide)] at H;exact uf0b_0
      ·rw [if_neg c38] at H;have c38b0:=cf_ c38;clear c38;exact uf0b_0
     ·rw [if_neg c37] at H;have c37b0:=cf_ c37;clear c37;exact uf0b_0
    ·rw [if_neg c36] at H;obtain ⟨c36b0,c36b1⟩:=bn_ c36;exact uf0b_0
mutual
def spec_l2GoodPat.j0:Nat→Bool→Bool→ByteArray→List (S86)→Option (Bool)
 | 0,_,_,_,_=>none
 | k+1,x14,x140000,x140001,x140002=>if x14=true then (some false) else (spec_l2GoodPat.l0 k x140002 (x140002.length:Int) 0)
def spec_l2GoodPat.l0:Nat→List (S86)→Int→Int→Option (Bool)
 | 0,_,_,_=>none
 | k+1,x16,x17,x18=>if x18<x17 then (if 0≤x18 then (if x18<(x16.length:Int) then ((spec_l2GoodTerm.f k ((rd_T86 x16 x18).f0) ((rd_T86 x16 x18).f1) ((rd_T86 x16 x18).f2) ((rd_T86 x16 x18).f3.f0) ((rd_T86 x16 x18).f3.f1) ((rd_T86 x16 x18).f3.f2)).bind fun t143=>(if t143=true then (spec_l2GoodPat.l0 k x16 x17 (wrap64 (x18+1))) else (some false))) else (none)) else (none)) else (some true)
end
def spec_l2GoodPat.f (k:Nat) (a0_0:Bool) (a0_1:ByteArray) (l0_2:List (S86)):Option (Bool):=(spec_l2GoodCls.f k a0_1).bind fun t140=>(if t140=true then (spec_l2GoodPat.j0 k (decide ((l0_2.length:Int)>6)) a0_0 a0_1 l0_2) else (spec_l2GoodPat.j0 k true a0_0 a0_1 l0_2))
theorem spec_l2GoodPat.mono_l:∀k,(∀y0 y1 y2 y3,LeO (spec_l2GoodPat.j0 k y0 y1 y2 y3) (spec_l2GoodPat.j0 (k+1) y0 y1 y2 y3))∧(∀y0 y1 y2,LeO (spec_l2GoodPat.l0 k y0 y1 y2) (spec_l2GoodPat.l0 (k+1) y0 y1 y2))
 | 0=>⟨fun _ _ _ _ r h=>by simp [spec_l2GoodPat.j0] at h,fun _ _ _ r h=>by simp [spec_l2GoodPat.l0] at h⟩
 | k+1=>by
  obtain ⟨ih0,ih1⟩:=spec_l2GoodPat.mono_l k;refine ⟨?_,?_⟩
  ·intro y0 y1 y2 y3;unfold spec_l2GoodPat.j0
   repeat' with_reducible first|apply ih0|apply ih1|apply spec_l2GoodCls.mono|apply spec_l2GoodTerm.mono|apply LeO.refl|apply LeO.none|refine LeO.ite ?_ ?_|refine LeO.bind ?_ (fun _=>?_)
  ·intro y0 y1 y2;unfold spec_l2GoodPat.l0
   repeat' with_reducible first|apply ih0|apply ih1|apply spec_l2GoodCls.mono|apply spec_l2GoodTerm.mono|apply LeO.refl|apply LeO.none|refine LeO.ite ?_ ?_|refine LeO.bind ?_ (fun _=>?_)
theorem spec_l2GoodPat.mono:∀a0 a1 a2 k,LeO (spec_l2GoodPat.f k a0 a1 a2) (spec_l2GoodPat.f (k+1) a0 a1 a2):=by
 intro a0 a1 a2 k;obtain ⟨ih0,ih1⟩:=spec_l2GoodPat.mono_l k;unfold spec_l2GoodPat.f
 repeat' with_reducible first|apply ih0|apply ih1|apply spec_l2GoodCls.mono|apply spec_l2GoodTerm.mono|apply LeO.refl|apply LeO.none|refine LeO.ite ?_ ?_|refine LeO.bind ?_ (fun _=>?_)
set_option maxHeartbeats 8000000 in
set_option maxRecDepth 100000 in
theorem spec_l2GoodPat.calls (k:Nat) (a0_0:Bool) (a0_1:ByteArray) (A0_2:Option Addr) (c0_2:Nat) (l0_2:List (S86)) (r:Bool) (w:World) (hr0_2:Kd.C k86 w A0_2 l0_2.length l0_2) (hc0_2:l0_2.length≤c0_2) (h:spec_l2GoodPat.f k a0_0 a0_1 l0_2=some r):
  Calls Tryz.prog 32 #[.agg #[.bool a0_0,.string a0_1,.slice A0_2 l0_2.length c0_2]] w fun e w'=>e=.returned (.bool r)∧Below w.heap.size w w':=by
 have hu42:=Tryz.underlying42;have hu86:=Tryz.underlying86;have HR0_2:=a_ hr0_2;have HC0_2:=a_ hc0_2;clear hr0_2 hc0_2;have HB:=a_ (Below.refl w.heap.size w);have H:=h;unfold spec_l2GoodPat.f at H
 clear h;have HC2:=a_ H;clear H;go_enter Tryz.func32,Tryz.ntmps32;go_upto_region 1 with (first|((with_reducible refine gate_dst (N:=1) rfl ?_);(try (refine gate_guard (by rfl) ?_;dsimp only));refine bh_ 1 #[.bool a0_0,.string a0_1,.slice A0_2 l0_2.length c0_2] 42 HB ?_;intro gb139 hg w3 BK139 GE139 hb;replace HB:=ms_ HB hb;clear hb hg));(try simp only [Act.put,List.setIfInBounds_toArray,List.set_cons_zero,List.set_cons_succ]);go_cut [14] (fun v14 wc=>∃(kq:Nat) (x14_1:Bool),v14=.bool x14_1∧Aside0 (spec_l2GoodPat.j0 kq x14_1 a0_0 a0_1 l0_2=some r)∧Aside0 (kq≤k)∧Aside0 (wc.heap[gb139]?=some (.cells #[.bool a0_0,.string a0_1,(.slice A0_2 l0_2.length c0_2)] 42 (0,0)))∧Aside0 (Below w.heap.size w wc))
 case first=>
  have H:=HC2.out;clear HC2;obtain ⟨t140,A4,H⟩:=ob_ H;by_cases c5:t140=true
  ·subst c5;rw [if_pos rfl] at H;have H':=a_ H;clear H;replace hz139:=cz3 BK139;go_wp2_with (first|((with_reducible refine gate_callee (f:=72) rfl ?_);refine goesL_ (some 7) rfl rfl Tryz.func72 (by kernel_rfl) rfl #[.string a0_1] rfl mw_ ?_;(with_reducible refine (spec_l2GoodCls.calls k a0_1 true _ A4.out).mono ?_);rintro e w' ⟨rfl,⟨nd,rfl⟩⟩;refine ⟨_,rfl,?_⟩));go_meet
   case rel=>exact ⟨_,(decide ((l0_2.length:Int)>6)),mq_,H',⟨by first|omega|exact Nat.le_refl _⟩,⟨mc_ BK139⟩,⟨mb_ HB⟩⟩
  ·replace c5:=Bool.eq_false_iff.mpr c5;subst c5;rw [if_neg (show ¬(false=true) by decide)] at H;have H':=a_ H;clear H;replace hz139:=cz3 BK139;go_wp2_with (first|((with_reducible refine gate_callee (f:=72) rfl ?_);refine goesL_ (some 7) rfl rfl Tryz.func72 (by kernel_rfl) rfl #[.string a0_1] rfl mw_ ?_;(with_reducible refine (spec_l2GoodCls.calls k a0_1 false _ A4.out).mono ?_);rintro e w' ⟨rfl,⟨nd,rfl⟩⟩;refine ⟨_,rfl,?_⟩));go_meet
   case rel=>exact ⟨_,(true),mq_,H',⟨by first|omega|exact Nat.le_refl _⟩,⟨mc_ BK139⟩,⟨mb_ HB⟩⟩
 clear HC2;obtain ⟨kq,x14_1,rfl,HA,HJ1,BK139,HB⟩:=hcut;obtain _|kj1:=kq
 ·exact absurd HA.out (by simp [spec_l2GoodPat.j0])
 have H:=HA.out;clear HA;simp only [spec_l2GoodPat.j0] at H;by_cases c8:x14_1=true
 ·subst c8;rw [if_pos rfl] at H;obtain rfl:=oi_ H;go_wp2;go_ret;exact ⟨me_,mb_ HB⟩
 ·replace c8:=Bool.eq_false_iff.mpr c8;subst c8;rw [if_neg (show ¬(false=true) by decide)] at H;have H':=a_ H;clear H;replace hz139:=cz3 BK139;go_wp2;go_loopg [18] kj1 (fun kq v18 w'=>∃(x18_2:Int),v18=.int .i64 x18_2∧Aside0 (spec_l2GoodPat.l0 kq l0_2 (l0_2.length:Int) x18_2=some r)∧Aside0 (kq≤kj1)∧Aside0 (w'.heap[gb139]?=some (.cells #[.bool a0_0,.string a0_1,(.slice A0_2 l0_2.length c0_2)] 42 (0,0)))∧Aside0 (Below w.heap.size w w'))
  case atStart=>exact ⟨(0),mq_,H',⟨Nat.le_refl _⟩,⟨mc_ BK139⟩,⟨mb_ HB⟩⟩
  clear H';(try clear c8);obtain ⟨x18_2,rfl,HA,HK2,BK139,HB⟩:=hrel;obtain _|k2:=gk
  ·exact absurd HA.out (by simp [spec_l2GoodPat.l0])
  have H:=HA.out;clear HA;simp only [spec_l2GoodPat.l0] at H;by_cases c10:x18_2<(l0_2.length:Int)
  ·rw [if_pos c10] at H;have c10b0:=ct_ c10;clear c10;by_cases c11:0≤x18_2
   case neg=>
    rw [if_neg c11] at H;cases H
   rw [if_pos c11] at H;have c11b0:=ct_ c11;clear c11;by_cases c12:x18_2<(l0_2.length:Int)
   case neg=>
    rw [if_neg c12] at H;cases H
   rw [if_pos c12] at H;have c12b0:=ct_ c12;clear c12;obtain ⟨t143,A13,H⟩:=ob_ H;by_cases c14:t143=true
   ·subst c14;rw [if_pos rfl] at H;have H':=a_ H;clear H;have p141:0≤(x18_2:Int):=md_
    have q141:x18_2<(l0_2.length:Int):=md_
    obtain ⟨ad141,e141,hx141_0,hx141_1,hx141_2,hx141_3,hx141_4,hx141_5⟩:=at_T86 HR0_2.out x18_2 p141 q141;cases e141;replace hx141_0:=mx_ HB hx141_0;replace hx141_1:=mx_ HB hx141_1;replace hx141_2:=mx_ HB hx141_2;replace hx141_3:=mx_ HB hx141_3;replace hx141_4:=mx_ HB hx141_4;replace hx141_5:=mx_ HB hx141_5;replace p141:=eq_true p141;replace q141:=eq_true q141;go_wp2_with (first|((with_reducible refine gate_dst (N:=4) rfl ?_);(try (refine gate_guard (by rfl) ?_;dsimp only));refine bh_ 4 #[.int .i64 0,.int .i64 0,.string (⟨#[]⟩:ByteArray),.int .i64 0,.int .i64 0,.string (⟨#[]⟩:ByteArray)] 86 HB ?_;intro gb142 hg wx BK142 GE142 hb;obtain ⟨NB139_142,NB142_139⟩:=mn_ BK139 hg;replace BK139:=mk_ BK139 hb;replace HB:=ms_ HB hb;clear hb hg;have nNB142_139:=NB142_139.out;have nNB139_142:=NB139_142.out;replace hz142:=cz6 BK142)|((with_reducible refine gate_callee (f:=73) rfl ?_);refine goesL_ (some 23) rfl rfl Tryz.func73 (by kernel_rfl) rfl #[.agg #[.int .i64 ((rd_T86 l0_2 x18_2).f0),.int .i64 ((rd_T86 l0_2 x18_2).f1),.string ((rd_T86 l0_2 x18_2).f2),.int .i64 ((rd_T86 l0_2 x18_2).f3.f0),.int .i64 ((rd_T86 l0_2 x18_2).f3.f1),.string ((rd_T86 l0_2 x18_2).f3.f2)]] rfl mw_ ?_;(with_reducible refine (spec_l2GoodTerm.calls k2 ((rd_T86 l0_2 x18_2).f0) ((rd_T86 l0_2 x18_2).f1) ((rd_T86 l0_2 x18_2).f2) ((rd_T86 l0_2 x18_2).f3.f0) ((rd_T86 l0_2 x18_2).f3.f1) ((rd_T86 l0_2 x18_2).f3.f2) true _ A13.out).mono ?_);rintro e wx ⟨rfl,hb⟩;refine ⟨_,rfl,?_⟩;replace BK139:=mk_ BK139 hb;replace BK142:=a_ (blk_below (g:=gb142) (o:=.cells #[.int .i64 ((rd_T86 l0_2 x18_2).f0),.int .i64 ((rd_T86 l0_2 x18_2).f1),.string ((rd_T86 l0_2 x18_2).f2),.int .i64 ((rd_T86 l0_2 x18_2).f3.f0),.int .i64 ((rd_T86 l0_2 x18_2).f3.f1),.string ((rd_T86 l0_2 x18_2).f3.f2)] 86 (0,0)) (mp_ BK142) hb);replace HB:=ms_ HB hb;(try clear hb)));go_roundg k2
    case measure=>
     have:=HJ1.out
     have:=HK2.out
     omega
    case rel=>exact ⟨(wrap64 (x18_2+1)),mq_,H',⟨by have:=HJ1.out;have:=HK2.out;omega⟩,⟨mc_ BK139⟩,⟨mb_ HB⟩⟩
   ·replace c14:=Bool.eq_false_iff.mpr c14;subst c14;rw [if_neg (show ¬(false=true) by decide)] at H;obtain rfl:=oi_ H;have p141:0≤(x18_2:Int):=md_
    have q141:x18_2<(l0_2.length:Int):=md_
    obtain ⟨ad141,e141,hx141_0,hx141_1,hx141_2,hx141_3,hx141_4,hx141_5⟩:=at_T86 HR0_2.out x18_2 p141 q141;cases e141;replace hx141_0:=mx_ HB hx141_0;replace hx141_1:=mx_ HB hx141_1;replace hx141_2:=mx_ HB hx141_2;replace hx141_3:=mx_ HB hx141_3;replace hx141_4:=mx_ HB hx141_4;replace hx141_5:=mx_ HB hx141_5;replace p141:=eq_true p141;replace q141:=eq_true q141;go_wp2_with (first|((with_reducible refine gate_dst (N:=4) rfl ?_);(try (refine gate_guard (by rfl) ?_;dsimp only));refine bh_ 4 #[.int .i64 0,.int .i64 0,.string (⟨#[]⟩:ByteArray),.int .i64 0,.int .i64 0,.string (⟨#[]⟩:ByteArray)] 86 HB ?_;intro gb142 hg wx BK142 GE142 hb;obtain ⟨NB139_142,NB142_139⟩:=mn_ BK139 hg;replace BK139:=mk_ BK139 hb;replace HB:=ms_ HB hb;clear hb hg;have nNB142_139:=NB142_139.out;have nNB139_142:=NB139_142.out;replace hz142:=cz6 BK142)|((with_reducible refine gate_callee (f:=73) rfl ?_);refine goesL_ (some 23) rfl rfl Tryz.func73 (by kernel_rfl) rfl #[.agg #[.int .i64 ((rd_T86 l0_2 x18_2).f0),.int .i64 ((rd_T86 l0_2 x18_2).f1),.string ((rd_T86 l0_2 x18_2).f2),.int .i64 ((rd_T86 l0_2 x18_2).f3.f0),.int .i64 ((rd_T86 l0_2 x18_2).f3.f1),.string ((rd_T86 l0_2 x18_2).f3.f2)]] rfl mw_ ?_;(with_reducible refine (spec_l2GoodTerm.calls k2 ((rd_T86 l0_2 x18_2).f0) ((rd_T86 l0_2 x18_2).f1) ((rd_T86 l0_2 x18_2).f2) ((rd_T86 l0_2 x18_2).f3.f0) ((rd_T86 l0_2 x18_2).f3.f1) ((rd_T86 l0_2 x18_2).f3.f2) false _ A13.out).mono ?_);rintro e wx ⟨rfl,hb⟩;refine ⟨_,rfl,?_⟩;replace BK139:=mk_ BK139 hb;replace BK142:=a_ (blk_below (g:=gb142) (o:=.cells #[.int .i64 ((rd_T86 l0_2 x18_2).f0),.int .i64 ((rd_T86 l0_2 x18_2).f1),.string ((rd_T86 l0_2 x18_2).f2),.int .i64 ((rd_T86 l0_2 x18_2).f3.f0),.int .i64 ((rd_T86 l0_2 x18_2).f3.f1),.string ((rd_T86 l0_2 x18_2).f3.f2)] 86 (0,0)) (mp_ BK142) hb);replace HB:=ms_ HB hb;(try clear hb)));go_ret;exact ⟨me_,mb_ HB⟩
  ·rw [if_neg c10] at H;have c10b0:=cf_ c10;clear c10;obtain rfl:=oi_ H;go_wp2;go_ret;exact ⟨me_,mb_ HB⟩
end Go.Proofs.YtahambloheoebaaGreatDoor.P
namespace Go.Proofs.YtahambloheoebaaGreatDoor.P
open Go.Proofs.YtahambloheoebaaGreatDoorX
open Go.RowKit Go.Proofs.YtahambloheoebaaGreatDoorW.PrintWords Go.Proofs.YtahambloheoebaaGreatDoorW.PrintLast Go.Proofs.YtahambloheoebaaGreatDoorW.PrintMore
attribute [local go_sem] max2_int min2_int max_two min_two max_three min_three max_four min_four
set_option linter.unusedVariables false
set_option linter.unusedSimpArgs false
def spec_l2Is.l0:Nat→ByteArray→List ByteArray→Int→Int→Option (Bool)
 | 0,_,_,_,_=>none
 | k+1,x0,x7,x8,x9=>if x9<x8 then (if 0≤x9 then (if x9<(x7.length:Int) then (if x0.toList=(rdOf ByteArray.empty x7 x9).toList then (some true) else (spec_l2Is.l0 k x0 x7 x8 (wrap64 (x9+1)))) else (none)) else (none)) else (some false)
def spec_l2Is.f (k:Nat) (a0:ByteArray) (l1:List ByteArray):Option (Bool):=spec_l2Is.l0 k a0 l1 (l1.length:Int) 0
theorem spec_l2Is.mono_l:∀k,(∀y0 y1 y2 y3,LeO (spec_l2Is.l0 k y0 y1 y2 y3) (spec_l2Is.l0 (k+1) y0 y1 y2 y3))
 | 0=>fun _ _ _ _ r h=>by simp [spec_l2Is.l0] at h
 | k+1=>by
  have ih0:=spec_l2Is.mono_l k
  ·intro y0 y1 y2 y3;unfold spec_l2Is.l0
   repeat' with_reducible first|apply ih0|apply LeO.refl|apply LeO.none|refine LeO.ite ?_ ?_|refine LeO.bind ?_ (fun _=>?_)
theorem spec_l2Is.mono:∀a0 a1 k,LeO (spec_l2Is.f k a0 a1) (spec_l2Is.f (k+1) a0 a1):=by
 intro a0 a1 k;have ih0:=spec_l2Is.mono_l k;unfold spec_l2Is.f
 repeat' with_reducible first|apply ih0|apply LeO.refl|apply LeO.none|refine LeO.ite ?_ ?_|refine LeO.bind ?_ (fun _=>?_)
set_option maxHeartbeats 8000000 in
set_option maxRecDepth 100000 in
theorem spec_l2Is.calls (k:Nat) (a0:ByteArray) (A1:Option Addr) (c1:Nat) (l1:List ByteArray) (r:Bool) (w:World) (hr1:Kd.C Kd.string w A1 l1.length l1) (hc1:l1.length≤c1) (h:spec_l2Is.f k a0 l1=some r):
  Calls Tryz.prog 161 #[.string a0,.slice A1 l1.length c1] w fun e w'=>e=.returned (.bool r)∧Drawn0 w w':=by
 have HR1:=a_ hr1;have HC1:=a_ hc1;clear hr1 hc1;have H:(spec_l2Is.l0 k a0 l1 (l1.length:Int) 0)=some r:=h
 clear h;have H':=a_ H;clear H;go_enter Tryz.func161,Tryz.ntmps161;go_wp2;go_loopg [9] k (fun kq v9 w'=>∃(x9_1:Int),v9=.int .i64 x9_1∧Aside0 (spec_l2Is.l0 kq a0 l1 (l1.length:Int) x9_1=some r)∧Aside0 (kq≤k)∧Drawn0 w w')
 case atStart=>exact ⟨(0),mq_,H',⟨Nat.le_refl _⟩,by repeat (first|exact Drawn0.refl _|apply Drawn0.step)⟩
 clear H';obtain ⟨x9_1,rfl,HA,HK1,⟨m1,rfl⟩⟩:=hrel;obtain _|k1:=gk
 ·exact absurd HA.out (by simp [spec_l2Is.l0])
 have H:=HA.out;clear HA;simp only [spec_l2Is.l0] at H;by_cases c3:x9_1<(l1.length:Int)
 ·rw [if_pos c3] at H;have c3b0:=ct_ c3;clear c3;by_cases c4:0≤x9_1
  case neg=>
   rw [if_neg c4] at H;cases H
  rw [if_pos c4] at H;have c4b0:=ct_ c4;clear c4;by_cases c5:x9_1<(l1.length:Int)
  case neg=>
   rw [if_neg c5] at H;cases H
  rw [if_pos c5] at H;have c5b0:=ct_ c5;clear c5;by_cases c6:a0.toList=(rdOf ByteArray.empty l1 x9_1).toList
  ·rw [if_pos c6] at H;obtain ⟨c6b0,c6b1⟩:=bq_ c6;clear c6;obtain rfl:=oi_ H;have p144:0≤(x9_1:Int):=md_
   have q144:x9_1<(l1.length:Int):=md_
   obtain ⟨ad144,e144,hx144_0⟩:=Kd.at_string HR1.out x9_1 p144 q144;cases e144;replace p144:=eq_true p144;replace q144:=eq_true q144;go_wp2;go_ret;exact ⟨by first|rfl|(simp;done)|(simp [*];done),by repeat (first|exact Drawn0.refl _|apply Drawn0.step)⟩
  ·rw [if_neg c6] at H;obtain ⟨c6b0,c6b1⟩:=bn_ c6;have H':=a_ H;clear H;have p144:0≤(x9_1:Int):=md_
   have q144:x9_1<(l1.length:Int):=md_
   obtain ⟨ad144,e144,hx144_0⟩:=Kd.at_string HR1.out x9_1 p144 q144;cases e144;replace p144:=eq_true p144;replace q144:=eq_true q144;go_wp2;go_roundg k1
   case measure=>
    have:=HK1.out
    omega
   case rel=>exact ⟨(wrap64 (x9_1+1)),mq_,H',⟨by have:=HK1.out;omega⟩,by repeat (first|exact Drawn0.refl _|apply Drawn0.step)⟩
 ·rw [if_neg c3] at H;have c3b0:=cf_ c3;clear c3;obtain rfl:=oi_ H;go_wp2;go_ret;exact ⟨by first|rfl|(simp;done)|(simp [*];done),by repeat (first|exact Drawn0.refl _|apply Drawn0.step)⟩
def spec_l2First.l0:Nat→List (S161)→Int→Option (Int)
 | 0,_,_=>none
 | k+1,x0,x1=>if 0≤x1 then (if x1<(x0.length:Int) then (if ((rd_T161 x0 x1).f0)=2 then (spec_l2First.l0 k x0 ((rd_T161 x0 x1).f4)) else (some x1)) else (none)) else (none)
def spec_l2First.f (k:Nat) (l0:List (S161)) (a1:Int):Option (Int):=spec_l2First.l0 k l0 a1
theorem spec_l2First.mono_l:∀k,(∀y0 y1,LeO (spec_l2First.l0 k y0 y1) (spec_l2First.l0 (k+1) y0 y1))
 | 0=>fun _ _ r h=>by simp [spec_l2First.l0] at h
 | k+1=>by
  have ih0:=spec_l2First.mono_l k
  ·intro y0 y1;unfold spec_l2First.l0
   repeat' with_reducible first|apply ih0|apply LeO.refl|apply LeO.none|refine LeO.ite ?_ ?_|refine LeO.bind ?_ (fun _=>?_)
theorem spec_l2First.mono:∀a0 a1 k,LeO (spec_l2First.f k a0 a1) (spec_l2First.f (k+1) a0 a1):=by
 intro a0 a1 k;have ih0:=spec_l2First.mono_l k;unfold spec_l2First.f
 repeat' with_reducible first|apply ih0|apply LeO.refl|apply LeO.none|refine LeO.ite ?_ ?_|refine LeO.bind ?_ (fun _=>?_)
set_option maxHeartbeats 8000000 in
set_option maxRecDepth 100000 in
theorem spec_l2First.calls (k:Nat) (A0:Option Addr) (c0:Nat) (l0:List (S161)) (a1:Int) (r:Int) (w:World) (hr0:Kd.C k161 w A0 l0.length l0) (hc0:l0.length≤c0) (h:spec_l2First.f k l0 a1=some r):
  Calls Tryz.prog 162 #[.slice A0 l0.length c0,.int .i64 a1] w fun e w'=>e=.returned (.int .i64 r)∧Drawn0 w w':=by
 have HR0:=a_ hr0;have HC0:=a_ hc0;clear hr0 hc0;have H:(spec_l2First.l0 k l0 a1)=some r:=h
 clear h;have H':=a_ H;clear H;go_enter Tryz.func162,Tryz.ntmps162;go_wp2;go_loopg [1] k (fun kq v1 w'=>∃(x1_1:Int),v1=.int .i64 x1_1∧Aside0 (spec_l2First.l0 kq l0 x1_1=some r)∧Aside0 (kq≤k)∧Drawn0 w w')
 case atStart=>exact ⟨(a1),mq_,H',⟨Nat.le_refl _⟩,by repeat (first|exact Drawn0.refl _|apply Drawn0.step)⟩
 clear H';obtain ⟨x1_1,rfl,HA,HK1,⟨m1,rfl⟩⟩:=hrel;obtain _|k1:=gk
 ·exact absurd HA.out (by simp [spec_l2First.l0])
 have H:=HA.out;clear HA;simp only [spec_l2First.l0] at H;by_cases c3:0≤x1_1
 case neg=>
  rw [if_neg c3] at H;cases H
 rw [if_pos c3] at H;have c3b0:=ct_ c3;clear c3;by_cases c4:x1_1<(l0.length:Int)
 case neg=>
  rw [if_neg c4] at H;cases H
 rw [if_pos c4] at H;have c4b0:=ct_ c4;clear c4;by_cases c5:((rd_T161 l0 x1_1).f0)=2
 ·rw [if_pos c5] at H;obtain ⟨c5b0,c5b1⟩:=bq_ c5;clear c5;have H':=a_ H;clear H;have p145:0≤(x1_1:Int):=md_
  have q145:x1_1<(l0.length:Int):=md_
  obtain ⟨ad145,e145,hx145_0,hx145_1,hx145_2,hx145_3,hx145_4,hx145_5,hx145_6,hx145_7⟩:=at_T161 HR0.out x1_1 p145 q145;cases e145;replace p145:=eq_true p145;replace q145:=eq_true q145;have p146:0≤(x1_1:Int):=md_
  have q146:x1_1<(l0.length:Int):=md_
  obtain ⟨ad146,e146,hx146_0,hx146_1,hx146_2,hx146_3,hx146_4,hx146_5,hx146_6,hx146_7⟩:=at_T161 HR0.out x1_1 p146 q146;obtain rfl:ad145=ad146:=(by injection e146);replace p146:=eq_true p146;replace q146:=eq_true q146;go_wp2;go_roundg k1
  case measure=>
   have:=HK1.out
   omega
  case rel=>exact ⟨((rd_T161 l0 x1_1).f4),mq_,H',⟨by have:=HK1.out;omega⟩,by repeat (first|exact Drawn0.refl _|apply Drawn0.step)⟩
 ·rw [if_neg c5] at H;obtain ⟨c5b0,c5b1⟩:=bn_ c5;obtain rfl:=oi_ H;have p145:0≤(x1_1:Int):=md_
  have q145:x1_1<(l0.length:Int):=md_
  obtain ⟨ad145,e145,hx145_0,hx145_1,hx145_2,hx145_3,hx145_4,hx145_5,hx145_6,hx145_7⟩:=at_T161 HR0.out x1_1 p145 q145;cases e145;replace p145:=eq_true p145;replace q145:=eq_true q145;go_wp2;go_ret;exact ⟨by first|rfl|(simp;done)|(simp [*];done),by repeat (first|exact Drawn0.refl _|apply Drawn0.step)⟩
def spec_l2Ariths.f  : Option (List ByteArray):=some (([(⟨#[43]⟩:ByteArray),(⟨#[45]⟩:ByteArray),(⟨#[42]⟩:ByteArray),(⟨#[47]⟩:ByteArray),(⟨#[37]⟩:ByteArray)]:List ByteArray))
set_option maxHeartbeats 8000000 in
set_option maxRecDepth 100000 in
theorem spec_l2Ariths.calls  (r:List ByteArray) (w:World) (h:spec_l2Ariths.f  = some r):
  Calls Tryz.prog 182 #[] w fun e w'=>∃v0_:Value,e=.returned (v0_)∧Kd.R Kd.string 9 w' w.heap.size (fun _=>True) v0_ r∧Below w.heap.size w w':=by
 have HB:=a_ (Below.refl w.heap.size w);have H:=h;unfold spec_l2Ariths.f at H
 clear h;obtain ⟨y147,hy147⟩:∃y_:List ByteArray,y_=(([(⟨#[43]⟩:ByteArray),(⟨#[45]⟩:ByteArray),(⟨#[42]⟩:ByteArray),(⟨#[47]⟩:ByteArray),(⟨#[37]⟩:ByteArray)]:List ByteArray)):=⟨_,rfl⟩;rw [←hy147] at H;(try rw [Option.bind_some] at H);have Ny147:=a_ hy147;clear hy147;obtain rfl:=oi_ H;go_enter Tryz.func182,Tryz.ntmps182;go_wp2_with (first|((with_reducible refine gate_dst (N:=1) rfl ?_);refine Kd.R_lit Kd.string _ 9 ?hg (N:=1) ?hd (xs:=([(⟨#[43]⟩:ByteArray),(⟨#[45]⟩:ByteArray),(⟨#[42]⟩:ByteArray),(⟨#[47]⟩:ByteArray),(⟨#[37]⟩:ByteArray)]:List ByteArray)) (inner:=[.string (⟨#[43]⟩:ByteArray),.string (⟨#[45]⟩:ByteArray),.string (⟨#[42]⟩:ByteArray),.string (⟨#[47]⟩:ByteArray),.string (⟨#[37]⟩:ByteArray)]) (ok:=fun _=>True) (okp:=fun _=>True) ?hr ?hp (fun _ hk=>hk) trivial (Below.refl _ _) (Nat.le_refl _) (by simp) ?_;(case hd=>rfl);(case hg=>rfl);(case hr=>first|(go_simp;done)|(go_simp;rfl));(case hp=>exact (Reps.one (show Kd.M Kd.string _ _ _ (⟨#[43]⟩:ByteArray) [.string (⟨#[43]⟩:ByteArray)] from rfl) (Reps.one (show Kd.M Kd.string _ _ _ (⟨#[45]⟩:ByteArray) [.string (⟨#[45]⟩:ByteArray)] from rfl) (Reps.one (show Kd.M Kd.string _ _ _ (⟨#[42]⟩:ByteArray) [.string (⟨#[42]⟩:ByteArray)] from rfl) (Reps.one (show Kd.M Kd.string _ _ _ (⟨#[47]⟩:ByteArray) [.string (⟨#[47]⟩:ByteArray)] from rfl) (Reps.one (show Kd.M Kd.string _ _ _ (⟨#[37]⟩:ByteArray) [.string (⟨#[37]⟩:ByteArray)] from rfl) (Reps.none _ _)))))));intro v148 wx ho2 hb hg_ hnew_;clear hg_ hnew_;(first|rw [←Ny147.out] at ho2|(simp only [Int.reduceToNat] at ho2;rw [←Ny147.out] at ho2));have HO149:=a_ (Kd.R_lower ho2 (below_size (mb_ HB)));replace HB:=ms_ HB hb;clear hb ho2));go_ret;exact ⟨_,me_,mo_ HO149.out,mb_ HB⟩
def spec_l2Depth.f:Nat→List (S161)→Int→Option (Int)
 | 0,_,_=>none
 | k+1,l0,a1=>if 0≤a1 then (if a1<(l0.length:Int) then (if ((rd_T161 l0 a1).f0)=2 then ((spec_l2Depth.f k l0 ((rd_T161 l0 a1).f4)).bind fun t152=>((spec_l2Depth.f k l0 ((rd_T161 l0 a1).f5)).bind fun t154=>(if t152<t154 then (some (wrap64 (t154+1))) else (some (wrap64 (t152+1)))))) else (some 0)) else (none)) else (none)
theorem spec_l2Depth.mono_l:∀k,(∀y0 y1,LeO (spec_l2Depth.f k y0 y1) (spec_l2Depth.f (k+1) y0 y1))
 | 0=>fun _ _ r h=>by simp [spec_l2Depth.f] at h
 | k+1=>by
  have ih0:=spec_l2Depth.mono_l k
  ·intro y0 y1;unfold spec_l2Depth.f
   repeat' with_reducible first|apply ih0|apply LeO.refl|apply LeO.none|refine LeO.ite ?_ ?_|refine LeO.bind ?_ (fun _=>?_)
theorem spec_l2Depth.mono:∀a0 a1 k,LeO (spec_l2Depth.f k a0 a1) (spec_l2Depth.f (k+1) a0 a1):=by
 intro a0 a1 k;have ih0:=spec_l2Depth.mono_l k;exact ih0 a0 a1
theorem u2ed_0 {p:Prop} (h:p:=by
 clear c8;obtain rfl:=oi_ H;have p150:0≤(a1:Int):=md_
 have q150:a1<(l0.length:Int):=md_
 obtain ⟨ad150,e150,hx150_0,hx150_1,hx150_2,hx150_3,hx150_4,hx150_5,hx150_6,hx150_7⟩:=at_T161 HR0.out a1 p150 q150;cases e150;replace p150:=eq_true p150;replace q150:=eq_true q150;have p151:0≤(a1:Int):=md_
 have q151:a1<(l0.length:Int):=md_
 obtain ⟨ad151,e151,hx151_0,hx151_1,hx151_2,hx151_3,hx151_4,hx151_5,hx151_6,hx151_7⟩:=at_T161 HR0.out a1 p151 q151;obtain rfl:ad150=ad151:=(by injection e151);replace p151:=eq_true p151;replace q151:=eq_true q151;go_enter Tryz.func183,Tryz.ntmps183;go_wp2_with (first|((with_reducible refine gate_callee (f:=183) rfl ?_);refine goesL_ (some 19) rfl rfl Tryz.func183 (by kernel_rfl) rfl #[.slice (some ad150) l0.length c0,.int .i64 ((rd_T161 l0 a1).f4)] rfl mw_ ?_;(with_reducible refine (ih k (by omega) _ _ l0 ((rd_T161 l0 a1).f4) t152 _ ?side1 HC0.out A6.out).mono ?_);(case side1=>repeat (first|exact HR0.out|(with_reducible refine Kd.C_alloc ?_ _)|(with_reducible refine Kd.C_drewN ?_ _)|(with_reducible refine Kd.C_drew ?_)));rintro e w' ⟨rfl,⟨nd,rfl⟩⟩;refine ⟨_,rfl,?_⟩;have p153:0≤(a1:Int):=md_;have q153:a1<(l0.length:Int):=md_;obtain ⟨ad153,e153,hx153_0,hx153_1,hx153_2,hx153_3,hx153_4,hx153_5,hx153_6,hx153_7⟩:=at_T161 HR0.out a1 p153 q153;obtain rfl:ad150=ad153:=(by injection e153);replace p153:=eq_true p153;replace q153:=eq_true q153)|((with_reducible refine gate_callee (f:=183) rfl ?_);refine goesL_ (some 26) rfl rfl Tryz.func183 (by kernel_rfl) rfl #[.slice (some ad150) l0.length c0,.int .i64 ((rd_T161 l0 a1).f5)] rfl mw_ ?_;(with_reducible refine (ih k (by omega) _ _ l0 ((rd_T161 l0 a1).f5) t154 _ ?side1 HC0.out A7.out).mono ?_);(case side1=>repeat (first|exact HR0.out|(with_reducible refine Kd.C_alloc ?_ _)|(with_reducible refine Kd.C_drewN ?_ _)|(with_reducible refine Kd.C_drew ?_)));rintro e w' ⟨rfl,⟨nd,rfl⟩⟩;refine ⟨_,rfl,?_⟩));go_ret;exact ⟨by first|rfl|(simp;done)|(simp [*];done),by repeat (first|exact Drawn0.refl _|apply Drawn0.step)⟩):p:=h
set_option maxHeartbeats 8000000 in
set_option maxRecDepth 100000 in
theorem spec_l2Depth.calls (k:Nat):∀(A0:Option Addr) (c0:Nat) (l0:List (S161)) (a1:Int) (r:Int) (w:World) (hr0:Kd.C k161 w A0 l0.length l0) (hc0:l0.length≤c0) (h:spec_l2Depth.f k l0 a1=some r),
  Calls Tryz.prog 183 #[.slice A0 l0.length c0,.int .i64 a1] w fun e w'=>e=.returned (.int .i64 r)∧Drawn0 w w':=by
 induction k using Nat.strongRecOn with
 | _ k ih=>
 intro A0 c0 l0 a1 r w hr0 hc0 h;cases k with
 | zero=>exact absurd h (by simp [spec_l2Depth.f])
 | succ k=>
 simp only [spec_l2Depth.f] at h;have HR0:=a_ hr0;have HC0:=a_ hc0;clear hr0 hc0;have H:(if 0≤a1 then (if a1<(l0.length:Int) then (if ((rd_T161 l0 a1).f0)=2 then ((spec_l2Depth.f k l0 ((rd_T161 l0 a1).f4)).bind fun t152=>((spec_l2Depth.f k l0 ((rd_T161 l0 a1).f5)).bind fun t154=>(if t152<t154 then (some (wrap64 (t154+1))) else (some (wrap64 (t152+1)))))) else (some 0)) else (none)) else (none))=some r:=h
 clear h;by_cases c3:0≤a1
 case neg=>
  rw [if_neg c3] at H;cases H
 rw [if_pos c3] at H;have c3b0:=ct_ c3;clear c3;by_cases c4:a1<(l0.length:Int)
 case neg=>
  rw [if_neg c4] at H;cases H
 rw [if_pos c4] at H;have c4b0:=ct_ c4;clear c4;by_cases c5:((rd_T161 l0 a1).f0)=2
 ·rw [if_pos c5] at H;obtain ⟨c5b0,c5b1⟩:=bq_ c5;clear c5;obtain ⟨t152,A6,H⟩:=ob_ H;obtain ⟨t154,A7,H⟩:=ob_ H;by_cases c8:t152<t154
  ·rw [if_pos c8] at H;have c8b0:=ct_ c8;exact u2ed_0
  ·rw [if_neg c8] at H;have c8b0:=cf_ c8;exact u2ed_0
 ·rw [if_neg c5] at H;obtain ⟨c5b0,c5b1⟩:=bn_ c5;obtain rfl:=oi_ H;have p150:0≤(a1:Int):=md_
  have q150:a1<(l0.length:Int):=md_
  obtain ⟨ad150,e150,hx150_0,hx150_1,hx150_2,hx150_3,hx150_4,hx150_5,hx150_6,hx150_7⟩:=at_T161 HR0.out a1 p150 q150;cases e150;replace p150:=eq_true p150;replace q150:=eq_true q150;go_enter Tryz.func183,Tryz.ntmps183;go_wp2;go_ret;exact ⟨by first|rfl|(simp;done)|(simp [*];done),by repeat (first|exact Drawn0.refl _|apply Drawn0.step)⟩
end Go.Proofs.YtahambloheoebaaGreatDoor.P
namespace Go.Proofs.YtahambloheoebaaGreatDoor.P
open Go.Proofs.YtahambloheoebaaGreatDoorX
open Go.RowKit Go.Proofs.YtahambloheoebaaGreatDoorW.PrintWords Go.Proofs.YtahambloheoebaaGreatDoorW.PrintLast Go.Proofs.YtahambloheoebaaGreatDoorW.PrintMore
attribute [local go_sem] max2_int min2_int max_two min_two max_three min_three max_four min_four
set_option linter.unusedVariables false
set_option linter.unusedSimpArgs false
mutual
def spec_l2GoodExpr.j0:Nat→List (S161)→Int→Bool→Int→Int→ByteArray→Int→Int→ByteArray→Int→Int→Option (Bool)
 | 0,_,_,_,_,_,_,_,_,_,_,_=>none
 | k+1,x0,x1,x6,x157000,x157001,x157002,x157003,x157004,x157005,x157006,x157007=>if x157000=0 then (if x6=true then (if x157002.toList=([]:List UInt8) then ((spec_l1GoodVal.f k x157003 x157004 x157005).bind fun t157=>(some t157)) else (some false)) else (some false)) else (if x157000=1 then (if x6=true then ((spec_l1GoodSym.f k x157002).bind fun t158=>(if t158=true then ((spec_l2Zero.f x157003 x157004 x157005).bind fun t159=>(some t159)) else (some false))) else (some false)) else (if x157000=2 then ((spec_l2Ariths.f).bind fun t163=>((spec_l2Is.f k (strOfNums (([x157001]:List Int))) t163).bind fun t166=>(if t166=true then (if x157002.toList=([]:List UInt8) then ((spec_l2Zero.f x157003 x157004 x157005).bind fun t167=>(if t167=true then (if x157007=(wrap64 (x1-1)) then (if x157007<0 then (spec_l2GoodExpr.j1 k x0 x1 true x157000 x157001 x157002 x157003 x157004 x157005 x157006 x157007) else (spec_l2GoodExpr.j1 k x0 x1 (decide (x157006<0)) x157000 x157001 x157002 x157003 x157004 x157005 x157006 x157007)) else (spec_l2GoodExpr.j1 k x0 x1 true x157000 x157001 x157002 x157003 x157004 x157005 x157006 x157007)) else (spec_l2GoodExpr.j1 k x0 x1 true x157000 x157001 x157002 x157003 x157004 x157005 x157006 x157007))) else (spec_l2GoodExpr.j1 k x0 x1 true x157000 x157001 x157002 x157003 x157004 x157005 x157006 x157007)) else (spec_l2GoodExpr.j1 k x0 x1 true x157000 x157001 x157002 x157003 x157004 x157005 x157006 x157007)))) else (some false)))
def spec_l2GoodExpr.j1:Nat→List (S161)→Int→Bool→Int→Int→ByteArray→Int→Int→ByteArray→Int→Int→Option (Bool)
 | 0,_,_,_,_,_,_,_,_,_,_,_=>none
 | k+1,x0,x1,x88,x157000,x157001,x157002,x157003,x157004,x157005,x157006,x157007=>if x88=true then (some false) else ((spec_l2First.f k x0 x157007).bind fun t168=>(if x157006=(wrap64 (t168-1)) then ((spec_l2Depth.f k x0 x1).bind fun t169=>(some (decide (t169≤20)))) else (some false)))
end
def spec_l2GoodExpr.f (k:Nat) (l0:List (S161)) (a1:Int):Option (Bool):=if 0≤a1 then (if a1<(l0.length:Int) then (if ((rd_T161 l0 a1).f1)=0 then (if ((rd_T161 l0 a1).f4)=0 then (spec_l2GoodExpr.j0 k l0 a1 (((rd_T161 l0 a1).f5)==0) ((rd_T161 l0 a1).f0) ((rd_T161 l0 a1).f1) ((rd_T161 l0 a1).f2) ((rd_T161 l0 a1).f3.f0) ((rd_T161 l0 a1).f3.f1) ((rd_T161 l0 a1).f3.f2) ((rd_T161 l0 a1).f4) ((rd_T161 l0 a1).f5)) else (spec_l2GoodExpr.j0 k l0 a1 false ((rd_T161 l0 a1).f0) ((rd_T161 l0 a1).f1) ((rd_T161 l0 a1).f2) ((rd_T161 l0 a1).f3.f0) ((rd_T161 l0 a1).f3.f1) ((rd_T161 l0 a1).f3.f2) ((rd_T161 l0 a1).f4) ((rd_T161 l0 a1).f5))) else (spec_l2GoodExpr.j0 k l0 a1 false ((rd_T161 l0 a1).f0) ((rd_T161 l0 a1).f1) ((rd_T161 l0 a1).f2) ((rd_T161 l0 a1).f3.f0) ((rd_T161 l0 a1).f3.f1) ((rd_T161 l0 a1).f3.f2) ((rd_T161 l0 a1).f4) ((rd_T161 l0 a1).f5))) else (none)) else (none)
theorem spec_l2GoodExpr.mono_l:∀k,(∀y0 y1 y2 y3 y4 y5 y6 y7 y8 y9 y10,LeO (spec_l2GoodExpr.j0 k y0 y1 y2 y3 y4 y5 y6 y7 y8 y9 y10) (spec_l2GoodExpr.j0 (k+1) y0 y1 y2 y3 y4 y5 y6 y7 y8 y9 y10))∧(∀y0 y1 y2 y3 y4 y5 y6 y7 y8 y9 y10,LeO (spec_l2GoodExpr.j1 k y0 y1 y2 y3 y4 y5 y6 y7 y8 y9 y10) (spec_l2GoodExpr.j1 (k+1) y0 y1 y2 y3 y4 y5 y6 y7 y8 y9 y10))
 | 0=>⟨fun _ _ _ _ _ _ _ _ _ _ _ r h=>by simp [spec_l2GoodExpr.j0] at h,fun _ _ _ _ _ _ _ _ _ _ _ r h=>by simp [spec_l2GoodExpr.j1] at h⟩
 | k+1=>by
  obtain ⟨ih0,ih1⟩:=spec_l2GoodExpr.mono_l k;refine ⟨?_,?_⟩
  ·intro y0 y1 y2 y3 y4 y5 y6 y7 y8 y9 y10;unfold spec_l2GoodExpr.j0
   repeat' with_reducible first|apply ih0|apply ih1|apply spec_l1GoodSym.mono|apply spec_l1GoodVal.mono|apply spec_l2Depth.mono|apply spec_l2First.mono|apply spec_l2Is.mono|apply LeO.refl|apply LeO.none|refine LeO.ite ?_ ?_|refine LeO.bind ?_ (fun _=>?_)
  ·intro y0 y1 y2 y3 y4 y5 y6 y7 y8 y9 y10;unfold spec_l2GoodExpr.j1
   repeat' with_reducible first|apply ih0|apply ih1|apply spec_l1GoodSym.mono|apply spec_l1GoodVal.mono|apply spec_l2Depth.mono|apply spec_l2First.mono|apply spec_l2Is.mono|apply LeO.refl|apply LeO.none|refine LeO.ite ?_ ?_|refine LeO.bind ?_ (fun _=>?_)
theorem spec_l2GoodExpr.mono:∀a0 a1 k,LeO (spec_l2GoodExpr.f k a0 a1) (spec_l2GoodExpr.f (k+1) a0 a1):=by
 intro a0 a1 k;obtain ⟨ih0,ih1⟩:=spec_l2GoodExpr.mono_l k;unfold spec_l2GoodExpr.f
 repeat' with_reducible first|apply ih0|apply ih1|apply spec_l1GoodSym.mono|apply spec_l1GoodVal.mono|apply spec_l2Depth.mono|apply spec_l2First.mono|apply spec_l2Is.mono|apply LeO.refl|apply LeO.none|refine LeO.ite ?_ ?_|refine LeO.bind ?_ (fun _=>?_)
def spec_l2GoodExpr.T9:Bool×List (List Nat×List Nat):=(true,[([],[]),([0],[0]),([1],[1]),([2],[2]),([],[]),([3,4,4],[3,4]),([5],[5]),([6,5],[6]),([7],[7]),([8,7],[7,8]),([9,7],[7,9]),([7,10],[7,10]),([11,7],[11]),([12],[12]),([13,12],[12,13]),([14,12,12],[12,14]),([15,12],[12,15]),([12,16],[12,16]),([17,15],[17]),([18],[18]),([19,18],[18,19]),([18],[18]),([21,18],[18,21]),([20,22,18],[18,20,22]),([18,23],[18,23]),([24,18],[24]),([25],[25]),([26,25],[25,26]),([27,25],[25,27]),([25,28],[25,28]),([29,25],[29]),([30],[30]),([31,30],[30,31]),([32,30],[30,32]),([30,33],[30,33])])
def spec_l2GoodExpr.B9:List Nat:=[0,1,3,7,0,31,63,127,255,511,1023,2047,4095,8191,16383,32767,65535,131071,262143,524287,1048575,524287,2621439,8388607,16777215,33554431,67108863,134217727,268435455,536870911,1073741823,2147483647,4294967295,8589934591,17179869183]
theorem spec_l2GoodExpr.tab9:rtab .any (opsOf Tryz.f159 9)=spec_l2GoodExpr.T9:=by kernel_rfl
theorem spec_l2GoodExpr.bits9:waitsOk spec_l2GoodExpr.T9.2 spec_l2GoodExpr.B9=true:=by kernel_rfl
def spec_l2GoodExpr.T11:Bool×List (List Nat×List Nat):=(true,[([],[]),([0],[0]),([],[]),([],[]),([3],[3]),([2,4],[2,4]),([5],[5]),([1,6],[1,6]),([7,5],[7]),([8],[8]),([8],[8]),([9,10,8,8],[8,9,10]),([11,8],[8,11]),([8,12],[8,12]),([13,11,0,1,2,3,4,5,6,7,8,9,10,11,12,13],[13])])
def spec_l2GoodExpr.B11:List Nat:=[0,1,0,0,8,28,60,127,255,511,511,2047,4095,8191,16383]
theorem spec_l2GoodExpr.tab11:rtab .any (opsOf Tryz.f159 11)=spec_l2GoodExpr.T11:=by kernel_rfl
theorem spec_l2GoodExpr.bits11:waitsOk spec_l2GoodExpr.T11.2 spec_l2GoodExpr.B11=true:=by kernel_rfl
abbrev bbe3_0:Array Bool:=#[f_,f_,f_,f_,f_,f_,f_,f_,f_,f_,f_,f_,f_,f_,f_,f_,f_,f_,f_,f_,f_,f_,f_,f_,f_,f_,f_,f_,f_,f_,f_,f_,f_,f_,f_]
abbrev bbe3_1:Array Bool:=#[t_,f_,f_,f_,f_,f_,f_,f_,f_,f_,f_,f_,f_,f_,f_,f_,f_,f_,f_,f_,f_,f_,f_,f_,f_,f_,f_,f_,f_,f_,f_,f_,f_,f_,f_]
abbrev bbe3_2:Array Bool:=#[t_,t_,f_,f_,f_,f_,f_,f_,f_,f_,f_,f_,f_,f_,f_,f_,f_,f_,f_,f_,f_,f_,f_,f_,f_,f_,f_,f_,f_,f_,f_,f_,f_,f_,f_]
abbrev bbe3_3:Array Bool:=#[t_,t_,t_,t_,t_,f_,f_,f_,f_,f_,f_,f_,f_,f_,f_,f_,f_,f_,f_,f_,f_,f_,f_,f_,f_,f_,f_,f_,f_,f_,f_,f_,f_,f_,f_]
abbrev bbe3_4:Array Bool:=#[t_,t_,t_,f_,f_,f_,f_,f_,f_,f_,f_,f_,f_,f_,f_,f_,f_,f_,f_,f_,f_,f_,f_,f_,f_,f_,f_,f_,f_,f_,f_,f_,f_,f_,f_]
abbrev bbe3_5:Array Bool:=#[t_,t_,f_,f_,t_,f_,f_,f_,f_,f_,f_,f_,f_,f_,f_,f_,f_,f_,f_,f_,f_,f_,f_,f_,f_,f_,f_,f_,f_,f_,f_,f_,f_,f_,f_]
abbrev bbe3_6:Array Bool:=#[t_,t_,t_,t_,f_,f_,f_,f_,f_,f_,f_,f_,f_,f_,f_,f_,f_,f_,f_,f_,f_,f_,f_,f_,f_,f_,f_,f_,f_,f_,f_,f_,f_,f_,f_]
abbrev bbe3_7:Array Bool:=#[t_,t_,t_,f_,t_,f_,f_,f_,f_,f_,f_,f_,f_,f_,f_,f_,f_,f_,f_,f_,f_,f_,f_,f_,f_,f_,f_,f_,f_,f_,f_,f_,f_,f_,f_]
abbrev bbe3_8:Array Bool:=#[t_,t_,t_,t_,t_,t_,f_,f_,f_,f_,f_,f_,f_,f_,f_,f_,f_,f_,f_,f_,f_,f_,f_,f_,f_,f_,f_,f_,f_,f_,f_,f_,f_,f_,f_]
abbrev bbe3_9:Array Bool:=#[t_,t_,t_,t_,t_,t_,t_,f_,f_,f_,f_,f_,f_,f_,f_,f_,f_,f_,f_,f_,f_,f_,f_,f_,f_,f_,f_,f_,f_,f_,f_,f_,f_,f_,f_]
abbrev bbe3_10:Array Bool:=#[t_,t_,t_,t_,t_,t_,t_,t_,f_,f_,f_,f_,f_,f_,f_,f_,f_,f_,f_,f_,f_,f_,f_,f_,f_,f_,f_,f_,f_,f_,f_,f_,f_,f_,f_]
abbrev bbe3_11:Array Bool:=#[t_,t_,t_,t_,t_,t_,t_,t_,t_,f_,f_,f_,f_,f_,f_,f_,f_,f_,f_,f_,f_,f_,f_,f_,f_,f_,f_,f_,f_,f_,f_,f_,f_,f_,f_]
abbrev bbe3_12:Array Bool:=#[t_,t_,t_,t_,t_,t_,t_,t_,t_,t_,f_,f_,f_,f_,f_,f_,f_,f_,f_,f_,f_,f_,f_,f_,f_,f_,f_,f_,f_,f_,f_,f_,f_,f_,f_]
abbrev bbe3_13:Array Bool:=#[t_,t_,t_,t_,t_,t_,t_,t_,t_,t_,t_,f_,f_,f_,f_,f_,f_,f_,f_,f_,f_,f_,f_,f_,f_,f_,f_,f_,f_,f_,f_,f_,f_,f_,f_]
abbrev bbe3_14:Array Bool:=#[t_,t_,t_,t_,t_,t_,t_,t_,t_,t_,t_,t_,f_,f_,f_,f_,f_,f_,f_,f_,f_,f_,f_,f_,f_,f_,f_,f_,f_,f_,f_,f_,f_,f_,f_]
abbrev bbe3_15:Array Bool:=#[t_,t_,t_,t_,t_,t_,t_,t_,t_,t_,t_,t_,t_,f_,f_,f_,f_,f_,f_,f_,f_,f_,f_,f_,f_,f_,f_,f_,f_,f_,f_,f_,f_,f_,f_]
abbrev bbe3_16:Array Bool:=#[t_,t_,t_,t_,t_,t_,t_,t_,t_,t_,t_,t_,t_,t_,f_,f_,f_,f_,f_,f_,f_,f_,f_,f_,f_,f_,f_,f_,f_,f_,f_,f_,f_,f_,f_]
abbrev bbe3_17:Array Bool:=#[t_,t_,t_,t_,t_,t_,t_,t_,t_,t_,t_,t_,t_,t_,t_,f_,f_,f_,f_,f_,f_,f_,f_,f_,f_,f_,f_,f_,f_,f_,f_,f_,f_,f_,f_]
abbrev bbe3_18:Array Bool:=#[t_,t_,t_,t_,t_,t_,t_,t_,t_,t_,t_,t_,t_,t_,t_,t_,f_,f_,f_,f_,f_,f_,f_,f_,f_,f_,f_,f_,f_,f_,f_,f_,f_,f_,f_]
abbrev bbe3_19:Array Bool:=#[t_,t_,t_,t_,t_,t_,t_,t_,t_,t_,t_,t_,t_,t_,t_,t_,t_,f_,f_,f_,f_,f_,f_,f_,f_,f_,f_,f_,f_,f_,f_,f_,f_,f_,f_]
abbrev bbe3_20:Array Bool:=#[t_,t_,t_,t_,t_,t_,t_,t_,t_,t_,t_,t_,t_,t_,t_,t_,t_,t_,f_,f_,f_,f_,f_,f_,f_,f_,f_,f_,f_,f_,f_,f_,f_,f_,f_]
abbrev bbe3_21:Array Bool:=#[t_,t_,t_,t_,t_,t_,t_,t_,t_,t_,t_,t_,t_,t_,t_,t_,t_,t_,t_,f_,f_,f_,f_,f_,f_,f_,f_,f_,f_,f_,f_,f_,f_,f_,f_]
abbrev bbe3_22:Array Bool:=#[t_,t_,t_,t_,t_,t_,t_,t_,t_,t_,t_,t_,t_,t_,t_,t_,t_,t_,t_,t_,f_,f_,f_,f_,f_,f_,f_,f_,f_,f_,f_,f_,f_,f_,f_]
abbrev bbe3_23:Array Bool:=#[t_,t_,t_,t_,t_,t_,t_,t_,t_,t_,t_,t_,t_,t_,t_,t_,t_,t_,t_,t_,f_,t_,f_,f_,f_,f_,f_,f_,f_,f_,f_,f_,f_,f_,f_]
abbrev bbe3_24:Array Bool:=#[t_,t_,t_,t_,t_,t_,t_,t_,t_,t_,t_,t_,t_,t_,t_,t_,t_,t_,t_,t_,f_,t_,t_,f_,f_,f_,f_,f_,f_,f_,f_,f_,f_,f_,f_]
abbrev bbe3_25:Array Bool:=#[t_,t_,t_,t_,t_,t_,t_,t_,t_,t_,t_,t_,t_,t_,t_,t_,t_,t_,t_,t_,t_,t_,t_,f_,f_,f_,f_,f_,f_,f_,f_,f_,f_,f_,f_]
abbrev bbe3_26:Array Bool:=#[t_,t_,t_,t_,t_,t_,t_,t_,t_,t_,t_,t_,t_,t_,t_,t_,t_,t_,t_,t_,t_,t_,t_,t_,f_,f_,f_,f_,f_,f_,f_,f_,f_,f_,f_]
abbrev bbe3_27:Array Bool:=#[t_,t_,t_,t_,t_,t_,t_,t_,t_,t_,t_,t_,t_,t_,t_,t_,t_,t_,t_,t_,t_,t_,t_,t_,t_,f_,f_,f_,f_,f_,f_,f_,f_,f_,f_]
abbrev bbe3_28:Array Bool:=#[t_,t_,t_,t_,t_,t_,t_,t_,t_,t_,t_,t_,t_,t_,t_,t_,t_,t_,t_,t_,t_,t_,t_,t_,t_,t_,f_,f_,f_,f_,f_,f_,f_,f_,f_]
abbrev bbe3_29:Array Bool:=#[t_,t_,t_,t_,t_,t_,t_,t_,t_,t_,t_,t_,t_,t_,t_,t_,t_,t_,t_,t_,t_,t_,t_,t_,t_,t_,t_,f_,f_,f_,f_,f_,f_,f_,f_]
abbrev bbe3_30:Array Bool:=#[t_,t_,t_,t_,t_,t_,t_,t_,t_,t_,t_,t_,t_,t_,t_,t_,t_,t_,t_,t_,t_,t_,t_,t_,t_,t_,t_,t_,f_,f_,f_,f_,f_,f_,f_]
abbrev bbe3_31:Array Bool:=#[t_,t_,t_,t_,t_,t_,t_,t_,t_,t_,t_,t_,t_,t_,t_,t_,t_,t_,t_,t_,t_,t_,t_,t_,t_,t_,t_,t_,t_,f_,f_,f_,f_,f_,f_]
abbrev bbe3_32:Array Bool:=#[t_,t_,t_,t_,t_,t_,t_,t_,t_,t_,t_,t_,t_,t_,t_,t_,t_,t_,t_,t_,t_,t_,t_,t_,t_,t_,t_,t_,t_,t_,f_,f_,f_,f_,f_]
abbrev bbe3_33:Array Bool:=#[t_,t_,t_,t_,t_,t_,t_,t_,t_,t_,t_,t_,t_,t_,t_,t_,t_,t_,t_,t_,t_,t_,t_,t_,t_,t_,t_,t_,t_,t_,t_,f_,f_,f_,f_]
abbrev bbe3_34:Array Bool:=#[t_,t_,t_,t_,t_,t_,t_,t_,t_,t_,t_,t_,t_,t_,t_,t_,t_,t_,t_,t_,t_,t_,t_,t_,t_,t_,t_,t_,t_,t_,t_,t_,f_,f_,f_]
abbrev bbe3_35:Array Bool:=#[t_,t_,t_,t_,t_,t_,t_,t_,t_,t_,t_,t_,t_,t_,t_,t_,t_,t_,t_,t_,t_,t_,t_,t_,t_,t_,t_,t_,t_,t_,t_,t_,t_,f_,f_]
abbrev bbe3_36:Array Bool:=#[t_,t_,t_,t_,t_,t_,t_,t_,t_,t_,t_,t_,t_,t_,t_,t_,t_,t_,t_,t_,t_,t_,t_,t_,t_,t_,t_,t_,t_,t_,t_,t_,t_,t_,f_]
abbrev bbe3_37:Array Bool:=#[t_,t_,t_,t_,t_,t_,t_,t_,t_,t_,t_,t_,t_,t_,t_,t_,t_,t_,t_,t_,t_,t_,t_,t_,t_,t_,t_,t_,t_,t_,t_,t_,t_,t_,t_]
abbrev bbe3_38:Array Bool:=#[t_,t_,t_,t_,t_,t_,t_,t_,t_,t_,t_,t_,t_,t_,t_,t_,t_,t_,t_,t_,t_,f_,f_,f_,f_,f_,f_,f_,f_,f_,f_,f_,f_,f_,f_]
abbrev bbe3_39:Array Bool:=#[t_,t_,t_,t_,t_,t_,t_,t_,t_,t_,t_,t_,t_,t_,t_,t_,t_,t_,t_,t_,t_,t_,f_,f_,f_,f_,f_,f_,f_,f_,f_,f_,f_,f_,f_]
abbrev bbe3_40:Array Bool:=#[f_,f_,f_,f_,f_,f_,f_,f_,f_,f_,f_,f_,f_,f_,f_]
abbrev bbe3_41:Array Bool:=#[t_,f_,f_,f_,f_,f_,f_,f_,f_,f_,f_,f_,f_,f_,f_]
abbrev bbe3_42:Array Bool:=#[t_,f_,t_,f_,f_,f_,f_,f_,f_,f_,f_,f_,f_,f_,f_]
abbrev bbe3_43:Array Bool:=#[t_,f_,t_,t_,f_,f_,f_,f_,f_,f_,f_,f_,f_,f_,f_]
abbrev bbe3_44:Array Bool:=#[t_,t_,t_,t_,f_,f_,f_,f_,f_,f_,f_,f_,f_,f_,f_]
abbrev bbe3_45:Array Bool:=#[t_,t_,t_,t_,t_,f_,f_,f_,f_,f_,f_,f_,f_,f_,f_]
abbrev bbe3_46:Array Bool:=#[t_,t_,t_,t_,t_,t_,f_,f_,f_,f_,f_,f_,f_,f_,f_]
abbrev bbe3_47:Array Bool:=#[t_,t_,t_,t_,t_,t_,t_,f_,f_,f_,f_,f_,f_,f_,f_]
abbrev bbe3_48:Array Bool:=#[t_,t_,t_,t_,t_,t_,t_,t_,f_,f_,f_,f_,f_,f_,f_]
abbrev bbe3_49:Array Bool:=#[t_,t_,t_,t_,t_,t_,t_,t_,t_,f_,f_,f_,f_,f_,f_]
abbrev bbe3_50:Array Bool:=#[t_,t_,t_,t_,t_,t_,t_,t_,t_,t_,f_,f_,f_,f_,f_]
abbrev bbe3_51:Array Bool:=#[t_,t_,t_,t_,t_,t_,t_,t_,t_,t_,t_,f_,f_,f_,f_]
abbrev bbe3_52:Array Bool:=#[t_,t_,t_,t_,t_,t_,t_,t_,t_,t_,t_,t_,f_,f_,f_]
abbrev bbe3_53:Array Bool:=#[t_,t_,t_,t_,t_,t_,t_,t_,t_,t_,t_,t_,t_,f_,f_]
abbrev bbe3_54:Array Bool:=#[t_,t_,t_,t_,t_,t_,t_,t_,t_,t_,t_,t_,t_,t_,f_]
abbrev bbe3_55:Array Bool:=#[t_,t_,t_,t_,t_,t_,t_,t_,t_,t_,t_,t_,t_,t_,t_]
theorem ube3_2 {p:Prop} (h:p:=by
 obtain rfl:=oi_ H;replace hz156:=cz8 BK156;go_wp2;go_ret;exact ⟨me_,mb_ HB⟩):p:=h
theorem ube3_1 {p:Prop} (h:p:=by
 exact ⟨_,(true),mq_,H',⟨by have:=HJ4.out;first|omega|exact Nat.le_refl _⟩,⟨mc_ BK156⟩,⟨mb_ HB⟩⟩):p:=h
theorem ube3_0 {p:Prop} (h:p:=by
 obtain rfl:=oi_ H;replace hz156:=cz8 BK156;go_wp2_with (first|(go_at_call 123;(with_reducible refine (spec_l1GoodVal.calls kj4 ((rd_T161 l0 a1).f3.f0) ((rd_T161 l0 a1).f3.f1) ((rd_T161 l0 a1).f3.f2) t157 _ A16.out).mono ?_);rintro e wx ⟨rfl,hb⟩;replace BK156:=mk_ BK156 hb;replace HB:=ms_ HB hb;(try clear hb))|(go_at_call 104;(with_reducible refine (spec_l1GoodSym.calls kj4 ((rd_T161 l0 a1).f2) true _ A23.out).mono ?_);rintro e w' ⟨rfl,⟨nd,rfl⟩⟩)|(go_at_call 122;(with_reducible refine (spec_l2Zero.calls ((rd_T161 l0 a1).f3.f0) ((rd_T161 l0 a1).f3.f1) ((rd_T161 l0 a1).f3.f2) t159 _ A25.out).mono ?_);rintro e wx ⟨rfl,hb⟩;replace BK156:=mk_ BK156 hb;replace HB:=ms_ HB hb;(try clear hb))|(go_at_call 104;(with_reducible refine (spec_l1GoodSym.calls kj4 ((rd_T161 l0 a1).f2) false _ A23.out).mono ?_);rintro e w' ⟨rfl,⟨nd,rfl⟩⟩));go_ret;exact ⟨me_,mb_ HB⟩):p:=h
set_option maxHeartbeats 8000000 in
set_option maxRecDepth 100000 in
theorem spec_l2GoodExpr.calls (k:Nat) (A0:Option Addr) (c0:Nat) (l0:List (S161)) (a1:Int) (r:Bool) (w:World) (hr0:Kd.C k161 w A0 l0.length l0) (hc0:l0.length≤c0) (h:spec_l2GoodExpr.f k l0 a1=some r):
  Calls Tryz.prog 159 #[.slice A0 l0.length c0,.int .i64 a1] w fun e w'=>e=.returned (.bool r)∧Below w.heap.size w w':=by
 have hu161:=Tryz.underlying161;have hu80:=Tryz.underlying80;have HR0:=a_ hr0;have HC0:=a_ hc0;clear hr0 hc0;have HB:=a_ (Below.refl w.heap.size w);have H:=h;unfold spec_l2GoodExpr.f at H
 clear h;by_cases c3:0≤a1
 case neg=>
  rw [if_neg c3] at H;cases H
 rw [if_pos c3] at H;have c3b0:=ct_ c3;clear c3;by_cases c4:a1<(l0.length:Int)
 case neg=>
  rw [if_neg c4] at H;cases H
 rw [if_pos c4] at H;have c4b0:=ct_ c4;clear c4;have HC5:=a_ H;clear H;have p155:0≤(a1:Int):=md_
 have q155:a1<(l0.length:Int):=md_
 obtain ⟨ad155,e155,hx155_0,hx155_1,hx155_2,hx155_3,hx155_4,hx155_5,hx155_6,hx155_7⟩:=at_T161 HR0.out a1 p155 q155;cases e155;replace p155:=eq_true p155;replace q155:=eq_true q155;go_enter Tryz.func159,Tryz.ntmps159;go_upto_region 2 with (first|((with_reducible refine gate_dst (N:=5) rfl ?_);refine bh_ 5 #[.int .i64 0,.int .u8 0,.string (⟨#[]⟩:ByteArray),.int .i64 0,.int .i64 0,.string (⟨#[]⟩:ByteArray),.int .i64 0,.int .i64 0] 161 HB ?_;intro gb156 hg w6 BK156 GE156 hb;replace HB:=ms_ HB hb;clear hb hg;replace hz156:=cz8 BK156));(try simp only [Act.put,ps_]);go_cut [6] (fun v6 wc=>∃(kq:Nat) (x6_4:Bool),v6=.bool x6_4∧Aside0 (spec_l2GoodExpr.j0 kq l0 a1 x6_4 ((rd_T161 l0 a1).f0) ((rd_T161 l0 a1).f1) ((rd_T161 l0 a1).f2) ((rd_T161 l0 a1).f3.f0) ((rd_T161 l0 a1).f3.f1) ((rd_T161 l0 a1).f3.f2) ((rd_T161 l0 a1).f4) ((rd_T161 l0 a1).f5)=some r)∧Aside0 (kq≤k)∧Aside0 (wc.heap[gb156]?=some (.cells #[.int .i64 ((rd_T161 l0 a1).f0),.int .u8 ((rd_T161 l0 a1).f1),.string ((rd_T161 l0 a1).f2),.int .i64 ((rd_T161 l0 a1).f3.f0),.int .i64 ((rd_T161 l0 a1).f3.f1),.string ((rd_T161 l0 a1).f3.f2),.int .i64 ((rd_T161 l0 a1).f4),.int .i64 ((rd_T161 l0 a1).f5)] 161 (0,0)))∧Aside0 (Below w.heap.size w wc))
 case first=>
  have H:=HC5.out;clear HC5;by_cases c8:((rd_T161 l0 a1).f1)=0
  ·rw [if_pos c8] at H;obtain ⟨c8b0,c8b1⟩:=bq_ c8;clear c8;(first|rw [c8b0]|(simp only [i64_w,i32_w];rw [c8b0])|skip);by_cases c9:((rd_T161 l0 a1).f4)=0
   ·rw [if_pos c9] at H;obtain ⟨c9b0,c9b1⟩:=bq_ c9;clear c9;have H':=a_ H;clear H;replace hz156:=cz8 BK156;go_wp2;go_meet
    case rel=>exact ⟨_,((((rd_T161 l0 a1).f5)==0)),mq_,H',⟨by first|omega|exact Nat.le_refl _⟩,⟨mp_ BK156⟩,⟨mb_ HB⟩⟩
   ·rw [if_neg c9] at H;obtain ⟨c9b0,c9b1⟩:=bn_ c9;have H':=a_ H;clear H;replace hz156:=cz8 BK156;go_wp2;go_meet
    case rel=>exact ⟨_,(false),mq_,H',⟨by first|omega|exact Nat.le_refl _⟩,⟨mp_ BK156⟩,⟨mb_ HB⟩⟩
  ·rw [if_neg c8] at H;obtain ⟨c8b0,c8b1⟩:=bn_ c8;(first|rw [c8b0]|(simp only [i64_w,i32_w];rw [c8b0])|skip);have H':=a_ H;clear H;replace hz156:=cz8 BK156;go_wp2;go_meet
   case rel=>exact ⟨_,(false),mq_,H',⟨by first|omega|exact Nat.le_refl _⟩,⟨mp_ BK156⟩,⟨mb_ HB⟩⟩
 clear HC5;(try clear c3b0);(try clear c4b0);(try clear hx155_0);(try clear hx155_1);(try clear hx155_2);(try clear hx155_3);(try clear hx155_4);(try clear hx155_5);(try clear hx155_6);(try clear hx155_7);(try clear p155);(try clear q155);obtain ⟨kq,x6_4,rfl,HA,HJ4,BK156,HB⟩:=hcut;obtain _|kj4:=kq
 ·exact absurd HA.out (by simp [spec_l2GoodExpr.j0])
 have H:=HA.out;clear HA;simp only [spec_l2GoodExpr.j0] at H;by_cases c13:((rd_T161 l0 a1).f0)=0
 ·rw [if_pos c13] at H;obtain ⟨c13b0,c13b1⟩:=bq_ c13;clear c13;by_cases c14:x6_4=true
  ·subst c14;rw [if_pos rfl] at H;by_cases c15:((rd_T161 l0 a1).f2).toList=([]:List UInt8)
   ·rw [if_pos c15] at H;obtain ⟨c15b0,c15b1⟩:=bq_ c15;clear c15;obtain ⟨t157,A16,H⟩:=ob_ H;exact ube3_0
   ·rw [if_neg c15] at H;obtain ⟨c15b0,c15b1⟩:=bn_ c15;exact ube3_2
  ·replace c14:=Bool.eq_false_iff.mpr c14;subst c14;rw [if_neg (show ¬(false=true) by decide)] at H;exact ube3_2
 ·rw [if_neg c13] at H;obtain ⟨c13b0,c13b1⟩:=bn_ c13;by_cases c21:((rd_T161 l0 a1).f0)=1
  ·rw [if_pos c21] at H;obtain ⟨c21b0,c21b1⟩:=bq_ c21;clear c21;by_cases c22:x6_4=true
   ·subst c22;rw [if_pos rfl] at H;obtain ⟨t158,A23,H⟩:=ob_ H;by_cases c24:t158=true
    ·subst c24;rw [if_pos rfl] at H;obtain ⟨t159,A25,H⟩:=ob_ H;exact ube3_0
    ·replace c24:=Bool.eq_false_iff.mpr c24;subst c24;rw [if_neg (show ¬(false=true) by decide)] at H;exact ube3_0
   ·replace c22:=Bool.eq_false_iff.mpr c22;subst c22;rw [if_neg (show ¬(false=true) by decide)] at H;exact ube3_2
  ·rw [if_neg c21] at H;obtain ⟨c21b0,c21b1⟩:=bn_ c21;by_cases c30:((rd_T161 l0 a1).f0)=2
   ·rw [if_pos c30] at H;obtain ⟨c30b0,c30b1⟩:=bq_ c30;clear c30;have HC31:=a_ H;clear H;replace hz156:=cz8 BK156;go_upto_region 9 with (fail);go_cut [88] (fun v88 wc=>∃(kq:Nat) (x88_30:Bool),v88=.bool x88_30∧Aside0 (spec_l2GoodExpr.j1 kq l0 a1 x88_30 ((rd_T161 l0 a1).f0) ((rd_T161 l0 a1).f1) ((rd_T161 l0 a1).f2) ((rd_T161 l0 a1).f3.f0) ((rd_T161 l0 a1).f3.f1) ((rd_T161 l0 a1).f3.f2) ((rd_T161 l0 a1).f4) ((rd_T161 l0 a1).f5)=some r)∧Aside0 (kq≤kj4)∧Aside0 (wc.heap[gb156]?=some (.cells #[.int .i64 ((rd_T161 l0 a1).f0),.int .u8 ((rd_T161 l0 a1).f1),.string ((rd_T161 l0 a1).f2),.int .i64 ((rd_T161 l0 a1).f3.f0),.int .i64 ((rd_T161 l0 a1).f3.f1),.string ((rd_T161 l0 a1).f3.f2),.int .i64 ((rd_T161 l0 a1).f4),.int .i64 ((rd_T161 l0 a1).f5)] 161 (0,0)))∧Aside0 (Below w.heap.size w wc))
    case first=>
     have H:=HC31.out;clear HC31;obtain ⟨y160,hy160⟩:∃y_:List Int,y_=(([((rd_T161 l0 a1).f1)]:List Int)):=⟨_,rfl⟩;rw [←hy160] at H;(try rw [Option.bind_some] at H);have Ny160:=a_ hy160;clear hy160;obtain ⟨t163,A33,H⟩:=ob_ H;obtain ⟨t166,A34,H⟩:=ob_ H;have HD:=a_ H;clear H;try go_wp2
     replace BK156:=a_ (blk_drew BK156.out);replace HB:=a_ (below_drew1 HB.out);refine start_ (n:=35) (S:=fun w'=>w'.cell? ⟨gb156,0,none⟩=some (.int .i64 ((rd_T161 l0 a1).f0))∧w'.cell? ⟨gb156,1,none⟩=some (.int .u8 ((rd_T161 l0 a1).f1))∧w'.cell? ⟨gb156,2,none⟩=some (.string ((rd_T161 l0 a1).f2))∧w'.cell? ⟨gb156,3,none⟩=some (.int .i64 ((rd_T161 l0 a1).f3.f0))∧w'.cell? ⟨gb156,4,none⟩=some (.int .i64 ((rd_T161 l0 a1).f3.f1))∧w'.cell? ⟨gb156,5,none⟩=some (.string ((rd_T161 l0 a1).f3.f2))∧w'.cell? ⟨gb156,6,none⟩=some (.int .i64 ((rd_T161 l0 a1).f4))∧w'.cell? ⟨gb156,7,none⟩=some (.int .i64 ((rd_T161 l0 a1).f5))) (ds:=[]) bbe3_0 (by kernel_rfl) rfl rfl ⟨bk_ BK156 0,bk_ BK156 1,bk_ BK156 2,bk_ BK156 3,bk_ BK156 4,bk_ BK156 5,bk_ BK156 6,bk_ BK156 7⟩ (fun hHeld=>?_);refine with_tabW spec_l2GoodExpr.tab9 spec_l2GoodExpr.bits9 (fun HT_ HW_=>?_);generalize wc.drew=wq0 at BK156 HB hHeld ⊢;refine pu_ 0 54 bbe3_1 (any_of HT_.out (by kernel_rfl)) ?_;refine tk_ 1 55 bbe3_2 (take_ofW HT_.out HW_.out (by kernel_rfl)) hHeld ?_;refine join_ (σ:=Value×Value) 30 bbe3_3 (fun s_=>[(56,s_.1),(57,.string (strOfNums y160)),(58,s_.2)]) (fun s_ w'=>(w'.cell? ⟨gb156,0,none⟩=some (.int .i64 ((rd_T161 l0 a1).f0))∧w'.cell? ⟨gb156,1,none⟩=some (.int .u8 ((rd_T161 l0 a1).f1))∧w'.cell? ⟨gb156,2,none⟩=some (.string ((rd_T161 l0 a1).f2))∧w'.cell? ⟨gb156,3,none⟩=some (.int .i64 ((rd_T161 l0 a1).f3.f0))∧w'.cell? ⟨gb156,4,none⟩=some (.int .i64 ((rd_T161 l0 a1).f3.f1))∧w'.cell? ⟨gb156,5,none⟩=some (.string ((rd_T161 l0 a1).f3.f2))∧w'.cell? ⟨gb156,6,none⟩=some (.int .i64 ((rd_T161 l0 a1).f4))∧w'.cell? ⟨gb156,7,none⟩=some (.int .i64 ((rd_T161 l0 a1).f5)))∧(Kd.R (Kd.int .u8) 5 w' w.heap.size (fun _=>True) s_.1 y160)∧(Kd.R Kd.string 9 w' w.heap.size (fun _=>True) s_.2 t163)∧(w'.heap[gb156]?=some (.cells #[.int .i64 ((rd_T161 l0 a1).f0),.int .u8 ((rd_T161 l0 a1).f1),.string ((rd_T161 l0 a1).f2),.int .i64 ((rd_T161 l0 a1).f3.f0),.int .i64 ((rd_T161 l0 a1).f3.f1),.string ((rd_T161 l0 a1).f3.f2),.int .i64 ((rd_T161 l0 a1).f4),.int .i64 ((rd_T161 l0 a1).f5)] 161 (0,0)))∧(Below w.heap.size w w')) ?_ ?_
     rotate_left
     ·intro hCont;refine two_ (i:=2) (j:=4) (Ni:=some 56) (Nj:=some 58) bbe3_4 bbe3_5 rfl rfl rfl rfl (two_of HT_.out (by kernel_rfl)) (by decide) (by decide) (fun K hK=>?_) (fun K hK=>?_)
      ·skip;refine Kd.R_lit_step (Kd.int .u8) _ 5 ?hg (N:=56) ?hd (xs:=([((rd_T161 l0 a1).f1)]:List Int)) (inner:=[.int .u8 ((rd_T161 l0 a1).f1)]) (ok:=fun _=>True) (okp:=fun _=>True) ?hr ?hp (fun _ hk=>hk) trivial (Below.refl _ _) (Nat.le_refl _) (by simp) ?_;(case hd=>rfl);(case hg=>rfl);(case hr=>first|(go_simp;done)|(go_simp;rfl));(case hp=>exact (Reps.one (show Kd.M (Kd.int .u8) _ _ _ ((rd_T161 l0 a1).f1) [.int .u8 ((rd_T161 l0 a1).f1)] from rfl) (Reps.none _ _)));intro v161 wq1 hoq2 hb hg_ hnew_;clear hg_ hnew_;(first|rw [←Ny160.out] at hoq2|(simp only [Int.reduceToNat] at hoq2;rw [←Ny160.out] at hoq2));have HO162:=a_ (Kd.R_lower hoq2 (below_size (mb_ HB)));replace BK156:=mk_ BK156 hb;replace HB:=ms_ HB hb;clear hb hoq2;refine hK.out _ _ (bc8 BK156) fun hHeld=>?_
       clear hK K;refine nm_ 56 ?_;refine two_ (i:=3) (j:=4) (Ni:=some 57) (Nj:=some 58) bbe3_6 bbe3_7 rfl rfl rfl rfl (two_of HT_.out (by kernel_rfl)) (by decide) (by decide) (fun K hK=>?_) (fun K hK=>?_)
       ·skip;have hcvq3:=own_string (P:=Tryz.prog) Tryz.underlying22 Tryz.underlying5 Tryz.underlying9 (Kd.own_of_R HO162.out);refine value_ (w1:=?_) (v:=?_) (by rfl) rfl ?_ ?_;rotate_left 2
        ·go_simp;constructor
         ·rfl
         ·rfl
        clear hcvq3;refine hK.out _ _ (bc8 BK156) fun hHeld=>?_
        clear hK K;refine nm_ 57 ?_;refine one_ (i:=4) (N:=some 58) bbe3_3 rfl rfl (one_of HT_.out (by kernel_rfl)) (by decide) (fun K hK=>?_);refine goes_ Tryz.func182 (by kernel_rfl) rfl #[] (by rfl) rfl rfl mw_ ?_;with_reducible refine (spec_l2Ariths.calls  t163 _ A33.out).mono ?_
        rintro e wq4 ⟨v164,rfl,ho0,hb⟩;refine ⟨_,rfl,?_⟩;have HO165:=a_ (Kd.R_lower ho0 (below_size (mb_ HB)));replace HO162:=ro_ HO162 hb;replace BK156:=mk_ BK156 hb;replace HB:=ms_ HB hb;(try clear hb);(try clear hb2);(try clear hk);(try clear hi);(try clear ho0);refine hK.out _ _ (bc8 BK156) fun hHeld=>?_
        clear hK K;refine nm_ 58 ?_;exact norm_ (by simp only [putAll,Act.put,ps_]) (hCont (v161,v164) _ ⟨hHeld,(mo_ HO162.out),(mo_ HO165.out),(mc_ BK156),(mb_ HB)⟩)
       ·skip;refine goes_ Tryz.func182 (by kernel_rfl) rfl #[] (by rfl) rfl rfl mw_ ?_;with_reducible refine (spec_l2Ariths.calls  t163 _ A33.out).mono ?_
        rintro e wq5 ⟨v164,rfl,ho0,hb⟩;refine ⟨_,rfl,?_⟩;have HO165:=a_ (Kd.R_lower ho0 (below_size (mb_ HB)));replace HO162:=ro_ HO162 hb;replace BK156:=mk_ BK156 hb;replace HB:=ms_ HB hb;(try clear hb);(try clear hb2);(try clear hk);(try clear hi);(try clear ho0);refine hK.out _ _ (bc8 BK156) fun hHeld=>?_
        clear hK K;refine nm_ 58 ?_;refine one_ (i:=3) (N:=some 57) bbe3_3 rfl rfl (one_of HT_.out (by kernel_rfl)) (by decide) (fun K hK=>?_);have hcvq6:=own_string (P:=Tryz.prog) Tryz.underlying22 Tryz.underlying5 Tryz.underlying9 (Kd.own_of_R HO162.out);refine value_ (w1:=?_) (v:=?_) (by rfl) rfl ?_ ?_;rotate_left 2
        ·go_simp;constructor
         ·rfl
         ·rfl
        clear hcvq6;refine hK.out _ _ (bc8 BK156) fun hHeld=>?_
        clear hK K;refine nm_ 57 ?_;exact norm_ (by simp only [putAll,Act.put,ps_]) (hCont (v161,v164) _ ⟨hHeld,(mo_ HO162.out),(mo_ HO165.out),(mc_ BK156),(mb_ HB)⟩)
      ·skip;refine goes_ Tryz.func182 (by kernel_rfl) rfl #[] (by rfl) rfl rfl mw_ ?_;with_reducible refine (spec_l2Ariths.calls  t163 _ A33.out).mono ?_
       rintro e wq1 ⟨v164,rfl,ho0,hb⟩;refine ⟨_,rfl,?_⟩;have HO165:=a_ (Kd.R_lower ho0 (below_size (mb_ HB)));replace BK156:=mk_ BK156 hb;replace HB:=ms_ HB hb;(try clear hb);(try clear hb2);(try clear hk);(try clear hi);(try clear ho0);refine hK.out _ _ (bc8 BK156) fun hHeld=>?_
       clear hK K;refine nm_ 58 ?_;refine one_ (i:=2) (N:=some 56) bbe3_7 rfl rfl (one_of HT_.out (by kernel_rfl)) (by decide) (fun K hK=>?_);refine Kd.R_lit_step (Kd.int .u8) _ 5 ?hg (N:=56) ?hd (xs:=([((rd_T161 l0 a1).f1)]:List Int)) (inner:=[.int .u8 ((rd_T161 l0 a1).f1)]) (ok:=fun _=>True) (okp:=fun _=>True) ?hr ?hp (fun _ hk=>hk) trivial (Below.refl _ _) (Nat.le_refl _) (by simp) ?_;(case hd=>rfl);(case hg=>rfl);(case hr=>first|(go_simp;done)|(go_simp;rfl));(case hp=>exact (Reps.one (show Kd.M (Kd.int .u8) _ _ _ ((rd_T161 l0 a1).f1) [.int .u8 ((rd_T161 l0 a1).f1)] from rfl) (Reps.none _ _)));intro v161 wq7 hoq8 hb hg_ hnew_;clear hg_ hnew_;(first|rw [←Ny160.out] at hoq8|(simp only [Int.reduceToNat] at hoq8;rw [←Ny160.out] at hoq8));have HO162:=a_ (Kd.R_lower hoq8 (below_size (mb_ HB)));replace HO165:=ro_ HO165 hb;replace BK156:=mk_ BK156 hb;replace HB:=ms_ HB hb;clear hb hoq8;refine hK.out _ _ (bc8 BK156) fun hHeld=>?_
       clear hK K;refine nm_ 56 ?_;refine one_ (i:=3) (N:=some 57) bbe3_3 rfl rfl (one_of HT_.out (by kernel_rfl)) (by decide) (fun K hK=>?_);have hcvq6:=own_string (P:=Tryz.prog) Tryz.underlying22 Tryz.underlying5 Tryz.underlying9 (Kd.own_of_R HO162.out);refine value_ (w1:=?_) (v:=?_) (by rfl) rfl ?_ ?_;rotate_left 2
       ·go_simp;constructor
        ·rfl
        ·rfl
       clear hcvq6;refine hK.out _ _ (bc8 BK156) fun hHeld=>?_
       clear hK K;refine nm_ 57 ?_;exact norm_ (by simp only [putAll,Act.put,ps_]) (hCont (v161,v164) _ ⟨hHeld,(mo_ HO162.out),(mo_ HO165.out),(mc_ BK156),(mb_ HB)⟩)
     rintro ⟨v161,v164⟩ wq9 ⟨hS_,h0_,h1_,h2_,h3_⟩;have n0_:Aside0 (Kd.R (Kd.int .u8) 5 wq9 w.heap.size (fun _=>True) v161 y160):=⟨h0_⟩
     have n1_:Aside0 (Kd.R Kd.string 9 wq9 w.heap.size (fun _=>True) v164 t163):=⟨h1_⟩
     have n2_:Aside0 (wq9.heap[gb156]?=some (.cells #[.int .i64 ((rd_T161 l0 a1).f0),.int .u8 ((rd_T161 l0 a1).f1),.string ((rd_T161 l0 a1).f2),.int .i64 ((rd_T161 l0 a1).f3.f0),.int .i64 ((rd_T161 l0 a1).f3.f1),.string ((rd_T161 l0 a1).f3.f2),.int .i64 ((rd_T161 l0 a1).f4),.int .i64 ((rd_T161 l0 a1).f5)] 161 (0,0))):=⟨h2_⟩
     have n3_:Aside0 (Below w.heap.size w wq9):=⟨h3_⟩
     clear BK156;clear HB;clear h0_ h1_ h2_ h3_;have HO162:=n0_;have HO165:=n1_;have BK156:=n2_;have HB:=n3_;clear n0_ n1_ n2_ n3_;have hHeld:wq9.cell? ⟨gb156,0,none⟩=some (.int .i64 ((rd_T161 l0 a1).f0))∧wq9.cell? ⟨gb156,1,none⟩=some (.int .u8 ((rd_T161 l0 a1).f1))∧wq9.cell? ⟨gb156,2,none⟩=some (.string ((rd_T161 l0 a1).f2))∧wq9.cell? ⟨gb156,3,none⟩=some (.int .i64 ((rd_T161 l0 a1).f3.f0))∧wq9.cell? ⟨gb156,4,none⟩=some (.int .i64 ((rd_T161 l0 a1).f3.f1))∧wq9.cell? ⟨gb156,5,none⟩=some (.string ((rd_T161 l0 a1).f3.f2))∧wq9.cell? ⟨gb156,6,none⟩=some (.int .i64 ((rd_T161 l0 a1).f4))∧wq9.cell? ⟨gb156,7,none⟩=some (.int .i64 ((rd_T161 l0 a1).f5)):=hS_
     obtain ⟨Aoq10,coq11,eoq12⟩:=Kd.R_slice HO165.out;(first|subst eoq12|(injection eoq12 with f1_ f2_ f3_;have f4_:=f1_.symm;have f5_:=f3_.symm;clear f1_ f2_ f3_;subst f4_;subst f5_));refine norm_ (a':=?_) ?_ ?_;rotate_left
     ·simp only [putAll,Act.put,ps_];rfl
     have H:=HD.out;clear HD;by_cases c35:t166=true
     ·subst c35;rw [if_pos rfl] at H;by_cases c36:((rd_T161 l0 a1).f2).toList=([]:List UInt8)
      ·rw [if_pos c36] at H;obtain ⟨c36b0,c36b1⟩:=bq_ c36;clear c36;(first|rw [c36b0]|(simp only [i64_w,i32_w];rw [c36b0])|skip);obtain ⟨t167,A37,H⟩:=ob_ H;by_cases c38:t167=true
       ·subst c38;rw [if_pos rfl] at H;by_cases c39:((rd_T161 l0 a1).f5)=(wrap64 (a1-1))
        ·rw [if_pos c39] at H;obtain ⟨c39b0,c39b1⟩:=bq_ c39;clear c39;have HD:=a_ H;clear H;(try simp only [c36b0,c36b1,c39b0,c39b1,c40b0]);refine one_ (i:=5) (N:=some 59) bbe3_8 rfl rfl (one_of HT_.out (by kernel_rfl)) (by decide) (fun K hK=>?_);refine goes_ Tryz.func161 (by kernel_rfl) rfl #[.string (strOfNums y160),.slice Aoq10 t163.length coq11] (by rfl) rfl rfl mw_ ?_;with_reducible refine (spec_l2Is.calls kj4 (strOfNums y160) _ _ t163 true _ ?side1 ?side2 A34.out).mono ?_
         (case side1=>repeat (first|exact (Kd.R_reads' HO165.out).2.2|(with_reducible refine Kd.C_alloc ?_ _)|(with_reducible refine Kd.C_drewN ?_ _)|(with_reducible refine Kd.C_drew ?_)))
         (case side2=>exact (Kd.R_reads' HO165.out).2.1)
         rintro e w' ⟨rfl,⟨nd,rfl⟩⟩;refine ⟨_,rfl,?_⟩;refine hK.out _ _ (bc8 BK156) fun hHeld=>?_
         clear hK K;refine nm_ 59 ?_;refine pu_ 6 60 bbe3_9 (any_of HT_.out (by kernel_rfl)) ?_;refine pu_ 7 61 bbe3_10 (any_of HT_.out (by kernel_rfl)) ?_;refine pu_ 8 62 bbe3_11 (any_of HT_.out (by kernel_rfl)) ?_;refine tk_ 9 63 bbe3_12 (take_ofW HT_.out HW_.out (by kernel_rfl)) hHeld ?_;refine pu_ 10 64 bbe3_13 (any_of HT_.out (by kernel_rfl)) ?_;refine pu_ 11 65 bbe3_14 (any_of HT_.out (by kernel_rfl)) ?_;refine pu_ 12 66 bbe3_15 (any_of HT_.out (by kernel_rfl)) ?_;refine pu_ 13 67 bbe3_16 (any_of HT_.out (by kernel_rfl)) ?_;refine tk_ 14 68 bbe3_17 (take_ofW HT_.out HW_.out (by kernel_rfl)) hHeld ?_;refine one_ (i:=15) (N:=some 69) bbe3_18 rfl rfl (one_of HT_.out (by kernel_rfl)) (by decide) (fun K hK=>?_)
         refine goes_ Tryz.func122 (by kernel_rfl) rfl #[.agg #[.int .i64 ((rd_T161 l0 a1).f3.f0),.int .i64 ((rd_T161 l0 a1).f3.f1),.string ((rd_T161 l0 a1).f3.f2)]] (by rfl) rfl rfl mw_ ?_;with_reducible refine (spec_l2Zero.calls ((rd_T161 l0 a1).f3.f0) ((rd_T161 l0 a1).f3.f1) ((rd_T161 l0 a1).f3.f2) true _ A37.out).mono ?_
         rintro e wq13 ⟨rfl,hb⟩;refine ⟨_,rfl,?_⟩;replace HO162:=ro_ HO162 hb;replace HO165:=ro_ HO165 hb;replace BK156:=mk_ BK156 hb;replace HB:=ms_ HB hb;(try clear hb);(try clear hb2);(try clear hk);(try clear hi);refine hK.out _ _ (bc8 BK156) fun hHeld=>?_
         clear hK K;refine nm_ 69 ?_;refine pu_ 16 70 bbe3_19 (any_of HT_.out (by kernel_rfl)) ?_;refine pu_ 17 71 bbe3_20 (any_of HT_.out (by kernel_rfl)) ?_;refine pu_ 18 72 bbe3_21 (any_of HT_.out (by kernel_rfl)) ?_;refine pu_ 19 73 bbe3_22 (any_of HT_.out (by kernel_rfl)) ?_;refine pu_ 21 75 bbe3_23 (any_of HT_.out (by kernel_rfl)) ?_;refine pu_ 22 76 bbe3_24 (any_of HT_.out (by kernel_rfl)) ?_;refine tk_ 20 74 bbe3_25 (take_ofW HT_.out HW_.out (by kernel_rfl)) hHeld ?_;refine pu_ 23 77 bbe3_26 (any_of HT_.out (by kernel_rfl)) ?_;refine pu_ 24 78 bbe3_27 (any_of HT_.out (by kernel_rfl)) ?_;refine pu_ 25 79 bbe3_28 (any_of HT_.out (by kernel_rfl)) ?_;refine pu_ 26 80 bbe3_29 (any_of HT_.out (by kernel_rfl)) ?_
         refine tk_ 27 81 bbe3_30 (take_ofW HT_.out HW_.out (by kernel_rfl)) hHeld ?_;refine pu_ 28 82 bbe3_31 (any_of HT_.out (by kernel_rfl)) ?_;refine pu_ 29 83 bbe3_32 (any_of HT_.out (by kernel_rfl)) ?_;refine pu_ 30 84 bbe3_33 (any_of HT_.out (by kernel_rfl)) ?_;have H:=HD.out;clear HD;by_cases c40:((rd_T161 l0 a1).f5)<0
         ·rw [if_pos c40] at H;have c40b0:=ct_ c40;clear c40;have H':=a_ H;clear H;(try simp only [c40b0]);refine pv_ 31 85 bbe3_34 (any_of HT_.out (by kernel_rfl)) ?_;refine pv_ 32 86 bbe3_35 (any_of HT_.out (by kernel_rfl)) ?_;refine pv_ 33 87 bbe3_36 (any_of HT_.out (by kernel_rfl)) ?_;refine pu_ 34 88 bbe3_37 (any_of HT_.out (by kernel_rfl)) ?_;refine done_ (done_of HT_.out (by kernel_rfl)) ?_;try go_wp2
          go_meet
          case rel=>exact ube3_1
         ·rw [if_neg c40] at H;have c40b0:=cf_ c40;clear c40;have H':=a_ H;clear H;(try simp only [c40b0]);refine pu_ 31 85 bbe3_34 (any_of HT_.out (by kernel_rfl)) ?_;refine tk_ 32 86 bbe3_35 (take_ofW HT_.out HW_.out (by kernel_rfl)) hHeld ?_;refine pu_ 33 87 bbe3_36 (any_of HT_.out (by kernel_rfl)) ?_;refine pu_ 34 88 bbe3_37 (any_of HT_.out (by kernel_rfl)) ?_;refine done_ (done_of HT_.out (by kernel_rfl)) ?_;try go_wp2
          go_meet
          case rel=>exact ⟨_,(decide (((rd_T161 l0 a1).f4)<0)),mq_,H',⟨by have:=HJ4.out;first|omega|exact Nat.le_refl _⟩,⟨mc_ BK156⟩,⟨mb_ HB⟩⟩
        ·rw [if_neg c39] at H;obtain ⟨c39b0,c39b1⟩:=bn_ c39;have H':=a_ H;clear H;(try simp only [c36b0,c36b1,c39b0,c39b1]);refine one_ (i:=5) (N:=some 59) bbe3_8 rfl rfl (one_of HT_.out (by kernel_rfl)) (by decide) (fun K hK=>?_);refine goes_ Tryz.func161 (by kernel_rfl) rfl #[.string (strOfNums y160),.slice Aoq10 t163.length coq11] (by rfl) rfl rfl mw_ ?_;with_reducible refine (spec_l2Is.calls kj4 (strOfNums y160) _ _ t163 true _ ?side1 ?side2 A34.out).mono ?_
         (case side1=>repeat (first|exact (Kd.R_reads' HO165.out).2.2|(with_reducible refine Kd.C_alloc ?_ _)|(with_reducible refine Kd.C_drewN ?_ _)|(with_reducible refine Kd.C_drew ?_)))
         (case side2=>exact (Kd.R_reads' HO165.out).2.1)
         rintro e w' ⟨rfl,⟨nd,rfl⟩⟩;refine ⟨_,rfl,?_⟩;refine hK.out _ _ (bc8 BK156) fun hHeld=>?_
         clear hK K;refine nm_ 59 ?_;refine pu_ 6 60 bbe3_9 (any_of HT_.out (by kernel_rfl)) ?_;refine pu_ 7 61 bbe3_10 (any_of HT_.out (by kernel_rfl)) ?_;refine pu_ 8 62 bbe3_11 (any_of HT_.out (by kernel_rfl)) ?_;refine tk_ 9 63 bbe3_12 (take_ofW HT_.out HW_.out (by kernel_rfl)) hHeld ?_;refine pu_ 10 64 bbe3_13 (any_of HT_.out (by kernel_rfl)) ?_;refine pu_ 11 65 bbe3_14 (any_of HT_.out (by kernel_rfl)) ?_;refine pu_ 12 66 bbe3_15 (any_of HT_.out (by kernel_rfl)) ?_;refine pu_ 13 67 bbe3_16 (any_of HT_.out (by kernel_rfl)) ?_;refine tk_ 14 68 bbe3_17 (take_ofW HT_.out HW_.out (by kernel_rfl)) hHeld ?_;refine one_ (i:=15) (N:=some 69) bbe3_18 rfl rfl (one_of HT_.out (by kernel_rfl)) (by decide) (fun K hK=>?_)
         refine goes_ Tryz.func122 (by kernel_rfl) rfl #[.agg #[.int .i64 ((rd_T161 l0 a1).f3.f0),.int .i64 ((rd_T161 l0 a1).f3.f1),.string ((rd_T161 l0 a1).f3.f2)]] (by rfl) rfl rfl mw_ ?_;with_reducible refine (spec_l2Zero.calls ((rd_T161 l0 a1).f3.f0) ((rd_T161 l0 a1).f3.f1) ((rd_T161 l0 a1).f3.f2) true _ A37.out).mono ?_
         rintro e wq13 ⟨rfl,hb⟩;refine ⟨_,rfl,?_⟩;replace HO162:=ro_ HO162 hb;replace HO165:=ro_ HO165 hb;replace BK156:=mk_ BK156 hb;replace HB:=ms_ HB hb;(try clear hb);(try clear hb2);(try clear hk);(try clear hi);refine hK.out _ _ (bc8 BK156) fun hHeld=>?_
         clear hK K;refine nm_ 69 ?_;refine pu_ 16 70 bbe3_19 (any_of HT_.out (by kernel_rfl)) ?_;refine pu_ 17 71 bbe3_20 (any_of HT_.out (by kernel_rfl)) ?_;refine pu_ 18 72 bbe3_21 (any_of HT_.out (by kernel_rfl)) ?_;refine pu_ 19 73 bbe3_22 (any_of HT_.out (by kernel_rfl)) ?_;refine pu_ 21 75 bbe3_23 (any_of HT_.out (by kernel_rfl)) ?_;refine pu_ 22 76 bbe3_24 (any_of HT_.out (by kernel_rfl)) ?_;refine tk_ 20 74 bbe3_25 (take_ofW HT_.out HW_.out (by kernel_rfl)) hHeld ?_;refine pu_ 23 77 bbe3_26 (any_of HT_.out (by kernel_rfl)) ?_;refine pu_ 24 78 bbe3_27 (any_of HT_.out (by kernel_rfl)) ?_;refine pu_ 25 79 bbe3_28 (any_of HT_.out (by kernel_rfl)) ?_;refine pv_ 26 80 bbe3_29 (any_of HT_.out (by kernel_rfl)) ?_
         refine pv_ 27 81 bbe3_30 (any_of HT_.out (by kernel_rfl)) ?_;refine pv_ 28 82 bbe3_31 (any_of HT_.out (by kernel_rfl)) ?_;refine pu_ 29 83 bbe3_32 (any_of HT_.out (by kernel_rfl)) ?_;refine pu_ 30 84 bbe3_33 (any_of HT_.out (by kernel_rfl)) ?_;refine pv_ 31 85 bbe3_34 (any_of HT_.out (by kernel_rfl)) ?_;refine pv_ 32 86 bbe3_35 (any_of HT_.out (by kernel_rfl)) ?_;refine pv_ 33 87 bbe3_36 (any_of HT_.out (by kernel_rfl)) ?_;refine pu_ 34 88 bbe3_37 (any_of HT_.out (by kernel_rfl)) ?_;refine done_ (done_of HT_.out (by kernel_rfl)) ?_;try go_wp2
         go_meet
         case rel=>exact ube3_1
       ·replace c38:=Bool.eq_false_iff.mpr c38;subst c38;rw [if_neg (show ¬(false=true) by decide)] at H;have H':=a_ H;clear H;(try simp only [c36b0,c36b1]);refine one_ (i:=5) (N:=some 59) bbe3_8 rfl rfl (one_of HT_.out (by kernel_rfl)) (by decide) (fun K hK=>?_);refine goes_ Tryz.func161 (by kernel_rfl) rfl #[.string (strOfNums y160),.slice Aoq10 t163.length coq11] (by rfl) rfl rfl mw_ ?_;with_reducible refine (spec_l2Is.calls kj4 (strOfNums y160) _ _ t163 true _ ?side1 ?side2 A34.out).mono ?_
        (case side1=>repeat (first|exact (Kd.R_reads' HO165.out).2.2|(with_reducible refine Kd.C_alloc ?_ _)|(with_reducible refine Kd.C_drewN ?_ _)|(with_reducible refine Kd.C_drew ?_)))
        (case side2=>exact (Kd.R_reads' HO165.out).2.1)
        rintro e w' ⟨rfl,⟨nd,rfl⟩⟩;refine ⟨_,rfl,?_⟩;refine hK.out _ _ (bc8 BK156) fun hHeld=>?_
        clear hK K;refine nm_ 59 ?_;refine pu_ 6 60 bbe3_9 (any_of HT_.out (by kernel_rfl)) ?_;refine pu_ 7 61 bbe3_10 (any_of HT_.out (by kernel_rfl)) ?_;refine pu_ 8 62 bbe3_11 (any_of HT_.out (by kernel_rfl)) ?_;refine tk_ 9 63 bbe3_12 (take_ofW HT_.out HW_.out (by kernel_rfl)) hHeld ?_;refine pu_ 10 64 bbe3_13 (any_of HT_.out (by kernel_rfl)) ?_;refine pu_ 11 65 bbe3_14 (any_of HT_.out (by kernel_rfl)) ?_;refine pu_ 12 66 bbe3_15 (any_of HT_.out (by kernel_rfl)) ?_;refine pu_ 13 67 bbe3_16 (any_of HT_.out (by kernel_rfl)) ?_;refine tk_ 14 68 bbe3_17 (take_ofW HT_.out HW_.out (by kernel_rfl)) hHeld ?_;refine one_ (i:=15) (N:=some 69) bbe3_18 rfl rfl (one_of HT_.out (by kernel_rfl)) (by decide) (fun K hK=>?_)
        refine goes_ Tryz.func122 (by kernel_rfl) rfl #[.agg #[.int .i64 ((rd_T161 l0 a1).f3.f0),.int .i64 ((rd_T161 l0 a1).f3.f1),.string ((rd_T161 l0 a1).f3.f2)]] (by rfl) rfl rfl mw_ ?_;with_reducible refine (spec_l2Zero.calls ((rd_T161 l0 a1).f3.f0) ((rd_T161 l0 a1).f3.f1) ((rd_T161 l0 a1).f3.f2) false _ A37.out).mono ?_
        rintro e wq13 ⟨rfl,hb⟩;refine ⟨_,rfl,?_⟩;replace HO162:=ro_ HO162 hb;replace HO165:=ro_ HO165 hb;replace BK156:=mk_ BK156 hb;replace HB:=ms_ HB hb;(try clear hb);(try clear hb2);(try clear hk);(try clear hi);refine hK.out _ _ (bc8 BK156) fun hHeld=>?_
        clear hK K;refine nm_ 69 ?_;refine pu_ 16 70 bbe3_19 (any_of HT_.out (by kernel_rfl)) ?_;refine pu_ 17 71 bbe3_20 (any_of HT_.out (by kernel_rfl)) ?_;refine pu_ 18 72 bbe3_21 (any_of HT_.out (by kernel_rfl)) ?_;refine pv_ 19 73 bbe3_22 (any_of HT_.out (by kernel_rfl)) ?_;refine pv_ 20 74 bbe3_38 (any_of HT_.out (by kernel_rfl)) ?_;refine pv_ 21 75 bbe3_39 (any_of HT_.out (by kernel_rfl)) ?_;refine pv_ 22 76 bbe3_25 (any_of HT_.out (by kernel_rfl)) ?_;refine pv_ 23 77 bbe3_26 (any_of HT_.out (by kernel_rfl)) ?_;refine pu_ 24 78 bbe3_27 (any_of HT_.out (by kernel_rfl)) ?_;refine pu_ 25 79 bbe3_28 (any_of HT_.out (by kernel_rfl)) ?_;refine pv_ 26 80 bbe3_29 (any_of HT_.out (by kernel_rfl)) ?_
        refine pv_ 27 81 bbe3_30 (any_of HT_.out (by kernel_rfl)) ?_;refine pv_ 28 82 bbe3_31 (any_of HT_.out (by kernel_rfl)) ?_;refine pu_ 29 83 bbe3_32 (any_of HT_.out (by kernel_rfl)) ?_;refine pu_ 30 84 bbe3_33 (any_of HT_.out (by kernel_rfl)) ?_;refine pv_ 31 85 bbe3_34 (any_of HT_.out (by kernel_rfl)) ?_;refine pv_ 32 86 bbe3_35 (any_of HT_.out (by kernel_rfl)) ?_;refine pv_ 33 87 bbe3_36 (any_of HT_.out (by kernel_rfl)) ?_;refine pu_ 34 88 bbe3_37 (any_of HT_.out (by kernel_rfl)) ?_;refine done_ (done_of HT_.out (by kernel_rfl)) ?_;try go_wp2
        go_meet
        case rel=>exact ube3_1
      ·rw [if_neg c36] at H;obtain ⟨c36b0,c36b1⟩:=bn_ c36;(first|rw [c36b0]|(simp only [i64_w,i32_w];rw [c36b0])|skip);have H':=a_ H;clear H;(try simp only [c36b0,c36b1]);refine one_ (i:=5) (N:=some 59) bbe3_8 rfl rfl (one_of HT_.out (by kernel_rfl)) (by decide) (fun K hK=>?_);refine goes_ Tryz.func161 (by kernel_rfl) rfl #[.string (strOfNums y160),.slice Aoq10 t163.length coq11] (by rfl) rfl rfl mw_ ?_;with_reducible refine (spec_l2Is.calls kj4 (strOfNums y160) _ _ t163 true _ ?side1 ?side2 A34.out).mono ?_
       (case side1=>repeat (first|exact (Kd.R_reads' HO165.out).2.2|(with_reducible refine Kd.C_alloc ?_ _)|(with_reducible refine Kd.C_drewN ?_ _)|(with_reducible refine Kd.C_drew ?_)))
       (case side2=>exact (Kd.R_reads' HO165.out).2.1)
       rintro e w' ⟨rfl,⟨nd,rfl⟩⟩;refine ⟨_,rfl,?_⟩;refine hK.out _ _ (bc8 BK156) fun hHeld=>?_
       clear hK K;refine nm_ 59 ?_;refine pu_ 6 60 bbe3_9 (any_of HT_.out (by kernel_rfl)) ?_;refine pu_ 7 61 bbe3_10 (any_of HT_.out (by kernel_rfl)) ?_;refine pu_ 8 62 bbe3_11 (any_of HT_.out (by kernel_rfl)) ?_;refine tk_ 9 63 bbe3_12 (take_ofW HT_.out HW_.out (by kernel_rfl)) hHeld ?_;refine pu_ 10 64 bbe3_13 (any_of HT_.out (by kernel_rfl)) ?_;refine pu_ 11 65 bbe3_14 (any_of HT_.out (by kernel_rfl)) ?_;refine pu_ 12 66 bbe3_15 (any_of HT_.out (by kernel_rfl)) ?_;refine pv_ 13 67 bbe3_16 (any_of HT_.out (by kernel_rfl)) ?_;refine pv_ 14 68 bbe3_17 (any_of HT_.out (by kernel_rfl)) ?_;refine pv_ 15 69 bbe3_18 (any_of HT_.out (by kernel_rfl)) ?_;refine pv_ 16 70 bbe3_19 (any_of HT_.out (by kernel_rfl)) ?_
       refine pu_ 17 71 bbe3_20 (any_of HT_.out (by kernel_rfl)) ?_;refine pu_ 18 72 bbe3_21 (any_of HT_.out (by kernel_rfl)) ?_;refine pv_ 19 73 bbe3_22 (any_of HT_.out (by kernel_rfl)) ?_;refine pv_ 20 74 bbe3_38 (any_of HT_.out (by kernel_rfl)) ?_;refine pv_ 21 75 bbe3_39 (any_of HT_.out (by kernel_rfl)) ?_;refine pv_ 22 76 bbe3_25 (any_of HT_.out (by kernel_rfl)) ?_;refine pv_ 23 77 bbe3_26 (any_of HT_.out (by kernel_rfl)) ?_;refine pu_ 24 78 bbe3_27 (any_of HT_.out (by kernel_rfl)) ?_;refine pu_ 25 79 bbe3_28 (any_of HT_.out (by kernel_rfl)) ?_;refine pv_ 26 80 bbe3_29 (any_of HT_.out (by kernel_rfl)) ?_;refine pv_ 27 81 bbe3_30 (any_of HT_.out (by kernel_rfl)) ?_
       refine pv_ 28 82 bbe3_31 (any_of HT_.out (by kernel_rfl)) ?_;refine pu_ 29 83 bbe3_32 (any_of HT_.out (by kernel_rfl)) ?_;refine pu_ 30 84 bbe3_33 (any_of HT_.out (by kernel_rfl)) ?_;refine pv_ 31 85 bbe3_34 (any_of HT_.out (by kernel_rfl)) ?_;refine pv_ 32 86 bbe3_35 (any_of HT_.out (by kernel_rfl)) ?_;refine pv_ 33 87 bbe3_36 (any_of HT_.out (by kernel_rfl)) ?_;refine pu_ 34 88 bbe3_37 (any_of HT_.out (by kernel_rfl)) ?_;refine done_ (done_of HT_.out (by kernel_rfl)) ?_;try go_wp2
       go_meet
       case rel=>exact ube3_1
     ·replace c35:=Bool.eq_false_iff.mpr c35;subst c35;rw [if_neg (show ¬(false=true) by decide)] at H;have H':=a_ H;clear H;refine one_ (i:=5) (N:=some 59) bbe3_8 rfl rfl (one_of HT_.out (by kernel_rfl)) (by decide) (fun K hK=>?_);refine goes_ Tryz.func161 (by kernel_rfl) rfl #[.string (strOfNums y160),.slice Aoq10 t163.length coq11] (by rfl) rfl rfl mw_ ?_;with_reducible refine (spec_l2Is.calls kj4 (strOfNums y160) _ _ t163 false _ ?side1 ?side2 A34.out).mono ?_
      (case side1=>repeat (first|exact (Kd.R_reads' HO165.out).2.2|(with_reducible refine Kd.C_alloc ?_ _)|(with_reducible refine Kd.C_drewN ?_ _)|(with_reducible refine Kd.C_drew ?_)))
      (case side2=>exact (Kd.R_reads' HO165.out).2.1)
      rintro e w' ⟨rfl,⟨nd,rfl⟩⟩;refine ⟨_,rfl,?_⟩;refine hK.out _ _ (bc8 BK156) fun hHeld=>?_
      clear hK K;refine nm_ 59 ?_;refine pu_ 6 60 bbe3_9 (any_of HT_.out (by kernel_rfl)) ?_;refine pu_ 7 61 bbe3_10 (any_of HT_.out (by kernel_rfl)) ?_;refine pv_ 8 62 bbe3_11 (any_of HT_.out (by kernel_rfl)) ?_;refine pv_ 9 63 bbe3_12 (any_of HT_.out (by kernel_rfl)) ?_;refine pv_ 10 64 bbe3_13 (any_of HT_.out (by kernel_rfl)) ?_;refine pu_ 11 65 bbe3_14 (any_of HT_.out (by kernel_rfl)) ?_;refine pu_ 12 66 bbe3_15 (any_of HT_.out (by kernel_rfl)) ?_;refine pv_ 13 67 bbe3_16 (any_of HT_.out (by kernel_rfl)) ?_;refine pv_ 14 68 bbe3_17 (any_of HT_.out (by kernel_rfl)) ?_;refine pv_ 15 69 bbe3_18 (any_of HT_.out (by kernel_rfl)) ?_;refine pv_ 16 70 bbe3_19 (any_of HT_.out (by kernel_rfl)) ?_
      refine pu_ 17 71 bbe3_20 (any_of HT_.out (by kernel_rfl)) ?_;refine pu_ 18 72 bbe3_21 (any_of HT_.out (by kernel_rfl)) ?_;refine pv_ 19 73 bbe3_22 (any_of HT_.out (by kernel_rfl)) ?_;refine pv_ 20 74 bbe3_38 (any_of HT_.out (by kernel_rfl)) ?_;refine pv_ 21 75 bbe3_39 (any_of HT_.out (by kernel_rfl)) ?_;refine pv_ 22 76 bbe3_25 (any_of HT_.out (by kernel_rfl)) ?_;refine pv_ 23 77 bbe3_26 (any_of HT_.out (by kernel_rfl)) ?_;refine pu_ 24 78 bbe3_27 (any_of HT_.out (by kernel_rfl)) ?_;refine pu_ 25 79 bbe3_28 (any_of HT_.out (by kernel_rfl)) ?_;refine pv_ 26 80 bbe3_29 (any_of HT_.out (by kernel_rfl)) ?_;refine pv_ 27 81 bbe3_30 (any_of HT_.out (by kernel_rfl)) ?_
      refine pv_ 28 82 bbe3_31 (any_of HT_.out (by kernel_rfl)) ?_;refine pu_ 29 83 bbe3_32 (any_of HT_.out (by kernel_rfl)) ?_;refine pu_ 30 84 bbe3_33 (any_of HT_.out (by kernel_rfl)) ?_;refine pv_ 31 85 bbe3_34 (any_of HT_.out (by kernel_rfl)) ?_;refine pv_ 32 86 bbe3_35 (any_of HT_.out (by kernel_rfl)) ?_;refine pv_ 33 87 bbe3_36 (any_of HT_.out (by kernel_rfl)) ?_;refine pu_ 34 88 bbe3_37 (any_of HT_.out (by kernel_rfl)) ?_;refine done_ (done_of HT_.out (by kernel_rfl)) ?_;try go_wp2
      go_meet
      case rel=>exact ube3_1
    clear HC31;obtain ⟨kq,x88_30,rfl,HA,HJ30,BK156,HB⟩:=hcut;obtain _|kj30:=kq
    ·exact absurd HA.out (by simp [spec_l2GoodExpr.j1])
    have H:=HA.out;clear HA;simp only [spec_l2GoodExpr.j1] at H;by_cases c87:x88_30=true
    ·subst c87;rw [if_pos rfl] at H;obtain rfl:=oi_ H;go_wp2;go_ret;exact ⟨me_,mb_ HB⟩
    ·replace c87:=Bool.eq_false_iff.mpr c87;subst c87;rw [if_neg (show ¬(false=true) by decide)] at H;obtain ⟨t168,A88,H⟩:=ob_ H;have HD:=a_ H;clear H;try go_wp2
     replace BK156:=a_ (blk_drew BK156.out);replace HB:=a_ (below_drew1 HB.out);refine start_ (n:=15) (S:=fun w'=>w'.cell? ⟨gb156,0,none⟩=some (.int .i64 ((rd_T161 l0 a1).f0))∧w'.cell? ⟨gb156,1,none⟩=some (.int .u8 ((rd_T161 l0 a1).f1))∧w'.cell? ⟨gb156,2,none⟩=some (.string ((rd_T161 l0 a1).f2))∧w'.cell? ⟨gb156,3,none⟩=some (.int .i64 ((rd_T161 l0 a1).f3.f0))∧w'.cell? ⟨gb156,4,none⟩=some (.int .i64 ((rd_T161 l0 a1).f3.f1))∧w'.cell? ⟨gb156,5,none⟩=some (.string ((rd_T161 l0 a1).f3.f2))∧w'.cell? ⟨gb156,6,none⟩=some (.int .i64 ((rd_T161 l0 a1).f4))∧w'.cell? ⟨gb156,7,none⟩=some (.int .i64 ((rd_T161 l0 a1).f5))) (ds:=[]) bbe3_40 (by kernel_rfl) rfl rfl ⟨bk_ BK156 0,bk_ BK156 1,bk_ BK156 2,bk_ BK156 3,bk_ BK156 4,bk_ BK156 5,bk_ BK156 6,bk_ BK156 7⟩ (fun hHeld=>?_);refine with_tabW spec_l2GoodExpr.tab11 spec_l2GoodExpr.bits11 (fun HT_ HW_=>?_);generalize wc.drew=wq0 at BK156 HB hHeld ⊢;refine pu_ 0 89 bbe3_41 (any_of HT_.out (by kernel_rfl)) ?_;refine pu_ 2 91 bbe3_42 (any_of HT_.out (by kernel_rfl)) ?_;refine pu_ 3 92 bbe3_43 (any_of HT_.out (by kernel_rfl)) ?_;refine tk_ 1 90 bbe3_44 (take_ofW HT_.out HW_.out (by kernel_rfl)) hHeld ?_;refine tk_ 4 93 bbe3_45 (take_ofW HT_.out HW_.out (by kernel_rfl)) hHeld ?_;refine one_ (i:=5) (N:=some 94) bbe3_46 rfl rfl (one_of HT_.out (by kernel_rfl)) (by decide) (fun K hK=>?_);refine goes_ Tryz.func162 (by kernel_rfl) rfl #[.slice (some ad155) l0.length c0,.int .i64 ((rd_T161 l0 a1).f5)] (by rfl) rfl rfl mw_ ?_;with_reducible refine (spec_l2First.calls kj30 _ _ l0 ((rd_T161 l0 a1).f5) t168 _ ?side1 ?side2 A88.out).mono ?_
     (case side1=>exact mt_ HR0 HB)
     (case side2=>exact HC0.out)
     rintro e w' ⟨rfl,⟨nd,rfl⟩⟩;refine ⟨_,rfl,?_⟩;refine hK.out _ _ (bc8 BK156) fun hHeld=>?_
     clear hK K;refine nm_ 94 ?_;refine pu_ 6 95 bbe3_47 (any_of HT_.out (by kernel_rfl)) ?_;refine pu_ 7 96 bbe3_48 (any_of HT_.out (by kernel_rfl)) ?_;refine pu_ 8 97 bbe3_49 (any_of HT_.out (by kernel_rfl)) ?_;have H:=HD.out;clear HD;by_cases c89:((rd_T161 l0 a1).f4)=(wrap64 (t168-1))
     ·rw [if_pos c89] at H;obtain ⟨c89b0,c89b1⟩:=bq_ c89;clear c89;obtain ⟨t169,A90,H⟩:=ob_ H;obtain rfl:=oi_ H;(try simp only [c89b0,c89b1]);refine pu_ 9 98 bbe3_50 (any_of HT_.out (by kernel_rfl)) ?_;refine pu_ 10 99 bbe3_51 (any_of HT_.out (by kernel_rfl)) ?_;refine one_ (i:=11) (N:=some 100) bbe3_52 rfl rfl (one_of HT_.out (by kernel_rfl)) (by decide) (fun K hK=>?_);refine goes_ Tryz.func183 (by kernel_rfl) rfl #[.slice (some ad155) l0.length c0,.int .i64 a1] (by rfl) rfl rfl mw_ ?_;with_reducible refine (spec_l2Depth.calls kj30 _ _ l0 a1 t169 _ ?side1 ?side2 A90.out).mono ?_
      (case side1=>repeat (first|exact (Kd.C_below HR0.out (mb_ HB))|(with_reducible refine Kd.C_alloc ?_ _)|(with_reducible refine Kd.C_drewN ?_ _)|(with_reducible refine Kd.C_drew ?_)))
      (case side2=>exact HC0.out)
      rintro e w' ⟨rfl,⟨nd,rfl⟩⟩;refine ⟨_,rfl,?_⟩;refine hK.out _ _ (bc8 BK156) fun hHeld=>?_
      clear hK K;refine nm_ 100 ?_;refine pu_ 12 101 bbe3_53 (any_of HT_.out (by kernel_rfl)) ?_;refine pu_ 13 102 bbe3_54 (any_of HT_.out (by kernel_rfl)) ?_;refine pu_ 14 4 bbe3_55 (any_of HT_.out (by kernel_rfl)) ?_;refine done_ (done_of HT_.out (by kernel_rfl)) ?_;try go_wp2
      go_ret;exact ⟨me_,mb_ HB⟩
     ·rw [if_neg c89] at H;obtain ⟨c89b0,c89b1⟩:=bn_ c89;obtain rfl:=oi_ H;(try simp only [c89b0,c89b1]);refine pv_ 9 98 bbe3_50 (any_of HT_.out (by kernel_rfl)) ?_;refine pv_ 10 99 bbe3_51 (any_of HT_.out (by kernel_rfl)) ?_;refine pv_ 11 100 bbe3_52 (any_of HT_.out (by kernel_rfl)) ?_;refine pv_ 12 101 bbe3_53 (any_of HT_.out (by kernel_rfl)) ?_;refine pu_ 13 102 bbe3_54 (any_of HT_.out (by kernel_rfl)) ?_;refine pu_ 14 4 bbe3_55 (any_of HT_.out (by kernel_rfl)) ?_;refine done_ (done_of HT_.out (by kernel_rfl)) ?_;try go_wp2
      go_ret;exact ⟨me_,mb_ HB⟩
   ·rw [if_neg c30] at H;obtain ⟨c30b0,c30b1⟩:=bn_ c30;exact ube3_2
end Go.Proofs.YtahambloheoebaaGreatDoor.P
namespace Go.Proofs.YtahambloheoebaaGreatDoorX
open Go Go.RowKit Go.Proofs.YtahambloheoebaaGreatDoorW.PrintWords
set_option linter.unusedVariables false
set_option linter.unusedSimpArgs false
theorem blk_new1 (w:World) (o o':Obj):((w.alloc o).alloc o').heap[w.heap.size+1]?=some o':=by
 have h:=blk_new (w.alloc o) o';rwa [show (w.alloc o).heap.size=w.heap.size+1 by simp] at h
end Go.Proofs.YtahambloheoebaaGreatDoorX
namespace Go.Proofs.YtahambloheoebaaGreatDoor.P
open Go.Proofs.YtahambloheoebaaGreatDoorX
open Go.RowKit Go.Proofs.YtahambloheoebaaGreatDoorW.PrintWords Go.Proofs.YtahambloheoebaaGreatDoorW.PrintLast Go.Proofs.YtahambloheoebaaGreatDoorW.PrintMore
attribute [local go_sem] max2_int min2_int max_two min_two max_three min_three max_four min_four
set_option linter.unusedVariables false
set_option linter.unusedSimpArgs false
open Go.Proofs.YtahambloheoebaaGreatDoorX
def spec_l2GoodAct.g (k:Nat) (es:List S161):List Int→Int→Option (Bool×Int)
 | [],n=>some (true,n)
 | x::xs,n=>if 0≤x∧x<(es.length:Int) then (spec_l2First.f k es x).bind fun t=>if t=n then spec_l2GoodAct.g k es xs (wrap64 (x+1)) else some (false,n) else some (false,n)
def spec_l2GoodAct.f (k:Nat) (es:List S161) (kd K:Int) (cls:ByteArray) (xs:List Int) (n:Int):Option (Bool×Int):=
 if kd=1 then (if 6<xs.length then some (false,n) else (spec_l2GoodCls.f k cls).bind fun g=>if g=true then (if K=0 then spec_l2GoodAct.g k es xs n else some (false,n)) else some (false,n)) else
 if kd=2 then (if xs=[] then (if cls.toList=[] then (if K < -1000000 then some (false,n) else if 1000000<K then some (false,n) else some (true,n)) else some (false,n)) else some (false,n)) else
 if kd=3 then (if 6<xs.length then some (false,n) else if cls.toList=[] then (if K < -1000000 then some (false,n) else if 1000000<K then some (false,n) else spec_l2GoodAct.g k es xs n) else some (false,n)) else
 if kd=4 then (if xs=[] then (if cls.toList=[] then (if K=0 then some (true,n) else some (false,n)) else some (false,n)) else some (false,n)) else some (false,n)
theorem spec_l2GoodAct.mono_g:∀es xs n k,LeO (spec_l2GoodAct.g k es xs n) (spec_l2GoodAct.g (k+1) es xs n)
 | es,[],n,k=>LeO.refl _
 | es,x::xs,n,k=>by
  unfold spec_l2GoodAct.g
  exact LeO.ite (LeO.bind (spec_l2First.mono _ _ k) (fun t=>LeO.ite (spec_l2GoodAct.mono_g _ _ _ k) (LeO.refl _))) (LeO.refl _)
theorem spec_l2GoodAct.mono:∀a0 a1 a2 a3 a4 a5 k,LeO (spec_l2GoodAct.f k a0 a1 a2 a3 a4 a5) (spec_l2GoodAct.f (k+1) a0 a1 a2 a3 a4 a5):=by
 intro a0 a1 a2 a3 a4 a5 k;unfold spec_l2GoodAct.f
 exact LeO.ite (LeO.ite (LeO.refl _) (LeO.bind (spec_l2GoodCls.mono _ k) (fun _=>LeO.ite (LeO.ite (spec_l2GoodAct.mono_g _ _ _ k) (LeO.refl _)) (LeO.refl _)))) (LeO.ite (LeO.refl _) (LeO.ite (LeO.ite (LeO.refl _) (LeO.ite (LeO.ite (LeO.refl _) (LeO.ite (LeO.refl _) (spec_l2GoodAct.mono_g _ _ _ k))) (LeO.refl _))) (LeO.refl _)))
theorem l2_ba {a:ByteArray} (h:a.toList=[]):a=⟨#[]⟩:=by
 rw [ByteArray.toList_eq] at h;cases a with|mk x=>
 exact congrArg ByteArray.mk (Array.toList_eq_nil_iff.1 h)
theorem l2_g_cons (k:Nat) (es:List S161) (xs:List Int) (n:Int) (i:Nat) (h:i<xs.length) (p:Bool×Int) (hg:spec_l2GoodAct.g k es (xs.drop i) n=some p):(if 0≤rd xs (i:Int)∧rd xs (i:Int)<(es.length:Int) then (spec_l2First.f k es (rd xs (i:Int))).bind fun t=>if t=n then spec_l2GoodAct.g k es (xs.drop (i+1)) (wrap64 (rd xs (i:Int)+1)) else some (false,n) else some (false,n))=some p:=by
 have e:rd xs (i:Int)=xs[i]:=by
  unfold rd
  simp [h]
 rw [List.drop_eq_getElem_cons h] at hg;unfold spec_l2GoodAct.g at hg
 rw [e];exact hg
theorem ue85_7 {p:Prop} (h:p:=by
 rw [if_pos c5] at h;cases h;have q5:decide (1000000<K)=true:=ct_ c5
 clear c5;go_enter Tryz.func160,Tryz.ntmps160;go_wp2;go_ret;exact ⟨rfl,HBB.out,HG.out,HG.out.size⟩):p:=h
theorem ue85_6 {p:Prop} (h:p:=by
 rw [if_pos c4] at h;cases h;have q4:decide (K < -1000000)=true:=ct_ c4
 clear c4;go_enter Tryz.func160,Tryz.ntmps160;go_wp2;go_ret;exact ⟨rfl,HBB.out,HG.out,HG.out.size⟩):p:=h
theorem ue85_5 {p:Prop} (h:p:=by
 rw [if_pos c1] at h;cases h;have q1:decide ((6:Int)<(xs.length:Int))=true:=decide_eq_true (by omega)
 clear c1;go_enter Tryz.func160,Tryz.ntmps160;go_wp2;go_ret;exact ⟨rfl,HBB.out,HG.out,HG.out.size⟩):p:=h
theorem ue85_4 {p:Prop} (h:p:=by
 go_enter Tryz.func160,Tryz.ntmps160;go_wp2;go_ret;exact ⟨rfl,HBB.out,HG.out,HG.out.size⟩):p:=h
theorem ue85_3 {p:Prop} (h:p:=by
 cases h;go_enter Tryz.func160,Tryz.ntmps160;go_wp2;go_loopg [90] 0 (fun gg v90 wr=>v90=.int .i64 0∧Aside0 (wr.heap[b]?=some (.cells #[.int .i64 n] 3 (0,0)))∧Aside0 (w.grownBy wr (some b)))
 case atStart=>exact ⟨rfl,HBB,HG⟩
 obtain ⟨rfl,HB2,HG2⟩:=hrel;go_wp2;go_ret;exact ⟨rfl,HB2.out,HG2.out,HG2.out.size⟩):p:=h
theorem ue85_2 {p:Prop} (h:p:=by
 ·rw [if_neg c2] at h;cases h;have s1:(cls.toList==([]:List UInt8))=false:=beq_eq_false_iff_ne.mpr c2
  have s2:(cls.toList != ([]:List UInt8))=true:=bne_iff_ne.mpr c2
  have s3:cls.toList.isEmpty=false:=by simpa using c2
  clear c2;go_enter Tryz.func160,Tryz.ntmps160;go_wp2;go_ret;exact ⟨rfl,HBB.out,HG.out,HG.out.size⟩):p:=h
theorem ue85_0 {p:Prop} (h:p:=by
 obtain ⟨i,m,hi,hgg,rfl,HH2,HB2,HG2,BK2⟩:=hrel;have HBW2:Aside0 (Below w0.heap.size w0 wr):=⟨HB.out.grown HG2.out HB.out.size (by intro q e;injection e with e;have:=HB0.out;omega)⟩
 by_cases hlt:i<xs.length
 ·have hz:(i:Int)<(xs.length:Int):=by omega
  have hz0:(0:Int)≤(i:Int):=by omega
  obtain ⟨ad,eA,hx⟩:=Kd.at_int HX.out (i:Int) hz0 hz;subst eA;replace hx:=(HBW2.out.cell (World.block_lt_of_cell? w0 _ hx)).trans hx;have hstep:=l2_g_cons k es xs m i hlt _ HH2.out;have hb0:=cell_of_one HB2.out;have hbf:=free_of_one HB2.out;have hy3:=(blk_cell BK2.out 3).trans rfl;simp only [List.getElem?_toArray,List.getElem?_cons_zero,List.getElem?_cons_succ] at hy3;have hnext:IntKind.i64.wrap ((i:Int)+1)=(i:Int)+1:=IntWalk.i64_in _ (by have:=HXL.out;omega)
  have HN:=a_ hnext;simp only [Int.toNat_natCast] at hx;generalize rd xs (i:Int)=x at *;clear hnext;by_cases d1:x<0
  ·rw [if_neg (by omega)] at hstep;cases hstep;have q1:decide (x<0)=true:=decide_eq_true d1
   clear d1;go_wp2;go_quiet (fail)
   go_wp2;go_ret;exact ⟨rfl,blk_drewN HB2.out _,HG2.out.trans (grown_of_below (pw_below_drewN (Below.refl _ _) _) _),HG2.out.size⟩
  by_cases d2:(es.length:Int)≤x
  ·rw [if_neg (by omega)] at hstep;cases hstep;have q1:decide (x<0)=false:=decide_eq_false d1
   have q2:decide ((es.length:Int)≤x)=true:=decide_eq_true d2
   clear d1 d2;go_wp2;go_quiet (fail)
   go_wp2;go_ret;exact ⟨rfl,blk_drewN HB2.out _,HG2.out.trans (grown_of_below (pw_below_drewN (Below.refl _ _) _) _),HG2.out.size⟩
  rw [if_pos (by omega)] at hstep;obtain ⟨t,ht,hs2⟩:=Option.bind_eq_some_iff.1 hstep;have HT:=a_ ht;clear ht hstep;have q1:decide (x<0)=false:=decide_eq_false d1
  have q2:decide ((es.length:Int)≤x)=false:=decide_eq_false d2
  clear d1 d2;by_cases d3:t=m
  ·rw [if_pos d3] at hs2;subst d3;have HS2:=a_ hs2;clear hs2;go_wp2;go_quiet ((go_at_call 162;refine (spec_l2First.calls k A3 c3 es x t _ (Kd.C_below HR.out (by repeat (first|exact HBW2.out|apply below_drew|apply pw_below_drewN))) HC.out HT.out).mono ?_;rintro e w4 ⟨rfl,⟨nd,rfl⟩⟩;(try first|exact ⟨rfl,_,World.drewN_drewN _ _ _⟩|exact ⟨rfl,_,Eq.trans (World.drewN_drewN _ _ _) (congrArg (World.drewN _) (Nat.add_assoc _ _ _))⟩)))
   generalize hq:wr.drewN nq=wq;have HB4:=a_ (blk_at hq HB2.out);have BK4:=a_ (blk_at hq BK2.out);have HG4:Aside0 (w.grownBy wq (some b)):=⟨by subst hq;exact HG2.out.trans (grown_of_below (pw_below_drewN (Below.refl _ _) _) _)⟩
   clear hq hb0 hbf hy3 hx;have hb4:=cell_of_one HB4.out;have hbf4:=free_of_one HB4.out;go_wp2;go_roundg (xs.length-(i+1))
   case measure=>omega
   case rel=>exact ⟨i+1,_,by omega,by omega,by rw [show wrap64 ((i:Int)+1)=((i+1:Nat):Int) by unfold wrap64;have:=HXL.out;omega],HS2,⟨one_setCell HB4.out⟩,⟨HG4.out.trans (grownBy_setCell' _ _ _)⟩,⟨(Below.heap_setCell _ _ _ _ (by have:=HBW.out;show w.heap.size≠b;omega)).trans BK4.out⟩⟩
  ·rw [if_neg d3] at hs2;cases hs2;have q3:(t==n')=false:=by simpa using d3
   have q4:(t != n')=true:=by simpa using d3
   clear d3;go_wp2;go_quiet ((go_at_call 162;refine (spec_l2First.calls k A3 c3 es x t _ (Kd.C_below HR.out (by repeat (first|exact HBW2.out|apply below_drew|apply pw_below_drewN))) HC.out HT.out).mono ?_;rintro e w4 ⟨rfl,⟨nd,rfl⟩⟩;(try first|exact ⟨rfl,_,World.drewN_drewN _ _ _⟩|exact ⟨rfl,_,Eq.trans (World.drewN_drewN _ _ _) (congrArg (World.drewN _) (Nat.add_assoc _ _ _))⟩)))
   go_wp2;go_ret;exact ⟨rfl,blk_drewN HB2.out _,HG2.out.trans (grown_of_below (pw_below_drewN (Below.refl _ _) _) _),HG2.out.size⟩
 ·have hil:i=xs.length:=by omega
  subst hil;have e0:=HH2.out;rw [List.drop_length] at e0;unfold spec_l2GoodAct.g at e0
  cases e0;clear HH2;go_wp2;go_ret;exact ⟨rfl,HB2.out,HG2.out,HG2.out.size⟩):p:=h
theorem ue85_1 {p:Prop} (h:p:=by
 ·rw [if_neg c1] at h;cases h;have c3:0<xs.length:=by cases xs with|nil=>exact absurd rfl c1|cons a l=>simp
  have q2:decide ((0:Int)<(xs.length:Int))=true:=decide_eq_true (by omega)
  have q3:decide (0<xs.length)=true:=ct_ c3
  clear c1 c3;by_cases c4:6<xs.length
  ·have q1:decide ((6:Int)<(xs.length:Int))=true:=decide_eq_true (by omega)
   clear c4;exact ue85_4
  ·have q1:decide ((6:Int)<(xs.length:Int))=false:=decide_eq_false (by omega)
   clear c4;exact ue85_4):p:=h
set_option maxHeartbeats 8000000 in
set_option maxRecDepth 100000 in
theorem spec_l2GoodAct.calls (k:Nat) (nm:ByteArray) (sa:Int) (A2:Option Addr) (n2 c2:Nat) (A3:Option Addr) (c3:Nat) (es:List S161) (A4:Option Addr) (n4 c4:Nat) (kd K:Int) (cls:ByteArray) (B:Option Addr) (cB:Nat) (xs:List Int) (b:Nat) (n n':Int) (r:Bool) (w0 w:World) (hB:Below w0.heap.size w0 w) (hr3:Kd.C k161 w0 A3 es.length es) (hc3:es.length≤c3) (hrx:Kd.C (Kd.int .i64) w0 B xs.length xs) (hbb:w.heap[b]?=some (.cells #[.int .i64 n] 3 (0,0))) (hb0:w0.heap.size≤b) (h:spec_l2GoodAct.f k es kd K cls xs n=some (r,n')):
  Calls Tryz.prog 160 #[.agg #[.string nm,.int .i64 sa,.slice A2 n2 c2,.slice A3 es.length c3,.slice A4 n4 c4],.agg #[.int .i64 kd,.int .i64 K,.string cls,.slice B xs.length cB],.pointer (some ⟨b,0,none⟩)] w fun e w'=>e=.returned (.bool r)∧w'.heap[b]?=some (.cells #[.int .i64 n'] 3 (0,0))∧w.grownBy w' (some b)∧w.heap.size≤w'.heap.size:=by
 have hu:=Tryz.underlying39;have hu2:=Tryz.underlying98;have HB:=a_ hB;have HR:=a_ hr3;have HC:=a_ hc3;have HX:=a_ hrx;have HB0:=a_ hb0;have HBB:=a_ (blk_alloc (blk_alloc hbb (.cells #[.string nm,.int .i64 sa,.slice A2 n2 c2,.slice A3 es.length c3,.slice A4 n4 c4] 39)) (.cells #[.int .i64 kd,.int .i64 K,.string cls,.slice B xs.length cB] 98));have HG:=a_ (World.grownBy_alloc w (.cells #[.string nm,.int .i64 sa,.slice A2 n2 c2,.slice A3 es.length c3,.slice A4 n4 c4] 39) (some b) |>.trans (World.grownBy_alloc _ (.cells #[.int .i64 kd,.int .i64 K,.string cls,.slice B xs.length cB] 98) (some b)));have BK:=a_ (blk_alloc (blk_new w (.cells #[.string nm,.int .i64 sa,.slice A2 n2 c2,.slice A3 es.length c3,.slice A4 n4 c4] 39)) (.cells #[.int .i64 kd,.int .i64 K,.string cls,.slice B xs.length cB] 98));have BA:=a_ (blk_new1 w (.cells #[.string nm,.int .i64 sa,.slice A2 n2 c2,.slice A3 es.length c3,.slice A4 n4 c4] 39) (.cells #[.int .i64 kd,.int .i64 K,.string cls,.slice B xs.length cB] 98));have HBW:Aside0 (b<w.heap.size):=⟨lt_of_block hbb⟩
 have HXL:Aside0 (xs.length≤9223372036854775807):=⟨hrx.2.1⟩
 clear hB hr3 hc3 hrx hbb hb0;unfold spec_l2GoodAct.f at h
 by_cases k1:kd=1
 ·subst k1;rw [if_pos rfl] at h;by_cases c1:6<xs.length
  ·exact ue85_5
  rw [if_neg c1] at h;have q1:decide ((6:Int)<(xs.length:Int))=false:=decide_eq_false (by omega)
  clear c1;obtain ⟨g,hg,h⟩:=Option.bind_eq_some_iff.1 h;have HGC:=a_ hg;clear hg;cases g with
  | false=>
   rw [if_neg (by simp)] at h;cases h;go_enter Tryz.func160,Tryz.ntmps160;go_wp2_with (go_at_call 72;refine (spec_l2GoodCls.calls k cls false _ HGC.out).mono ?_;rintro e w1 ⟨rfl,hd⟩;have HBB1:=a_ (blk_below HBB.out hd.below);have BK1:=a_ (blk_below BK.out hd.below);have HG1:=a_ (HG.out.trans (grown_of_below hd.below (some b)));have BA1:=blk_below BA.out hd.below;have ha0:=(blk_cell BA1 0).trans rfl;have ha1:=(blk_cell BA1 1).trans rfl;have ha2:=(blk_cell BA1 2).trans rfl;have ha3:=(blk_cell BA1 3).trans rfl;simp only [List.getElem?_toArray,List.getElem?_cons_zero,List.getElem?_cons_succ] at ha0 ha1 ha2 ha3;clear hd BA1);go_ret;exact ⟨rfl,HBB1.out,HG1.out,HG1.out.size⟩
  | true=>
  rw [if_pos rfl] at h;by_cases c2:K=0
  ·subst c2;rw [if_pos rfl] at h;have HH:Aside0 (spec_l2GoodAct.g k es (xs.drop 0) n=some (r,n')):=⟨h⟩
   clear h;go_enter Tryz.func160,Tryz.ntmps160;go_wp2_with (go_at_call 72;refine (spec_l2GoodCls.calls k cls true _ HGC.out).mono ?_;rintro e w1 ⟨rfl,hd⟩;have HBB1:=a_ (blk_below HBB.out hd.below);have BK1:=a_ (blk_below BK.out hd.below);have HG1:=a_ (HG.out.trans (grown_of_below hd.below (some b)));have BA1:=blk_below BA.out hd.below;have ha0:=(blk_cell BA1 0).trans rfl;have ha1:=(blk_cell BA1 1).trans rfl;have ha2:=(blk_cell BA1 2).trans rfl;have ha3:=(blk_cell BA1 3).trans rfl;simp only [List.getElem?_toArray,List.getElem?_cons_zero,List.getElem?_cons_succ] at ha0 ha1 ha2 ha3;clear hd BA1);go_loopg [90] xs.length (fun gg v90 wr=>∃(i:Nat) (m:Int),i≤xs.length∧xs.length-i≤gg∧v90=.int .i64 (i:Int)∧Aside0 (spec_l2GoodAct.g k es (xs.drop i) m=some (r,n'))∧Aside0 (wr.heap[b]?=some (.cells #[.int .i64 m] 3 (0,0)))∧Aside0 (w.grownBy wr (some b))∧Aside0 (wr.heap[w.heap.size]?=some (.cells #[.string nm,.int .i64 sa,.slice A2 n2 c2,.slice A3 es.length c3,.slice A4 n4 c4] 39 (0,0))))
   case atStart=>exact ⟨0,n,Nat.zero_le _,Nat.le_refl _,rfl,HH,HBB1,HG1,BK1⟩
   exact ue85_0
  ·rw [if_neg c2] at h;cases h;have q3:(K==0)=false:=by simpa using c2
   have q4:(K != 0)=true:=by simpa using c2
   clear c2;go_enter Tryz.func160,Tryz.ntmps160;go_wp2_with (go_at_call 72;refine (spec_l2GoodCls.calls k cls true _ HGC.out).mono ?_;rintro e w1 ⟨rfl,hd⟩;have HBB1:=a_ (blk_below HBB.out hd.below);have BK1:=a_ (blk_below BK.out hd.below);have HG1:=a_ (HG.out.trans (grown_of_below hd.below (some b)));have BA1:=blk_below BA.out hd.below;have ha0:=(blk_cell BA1 0).trans rfl;have ha1:=(blk_cell BA1 1).trans rfl;have ha2:=(blk_cell BA1 2).trans rfl;have ha3:=(blk_cell BA1 3).trans rfl;simp only [List.getElem?_toArray,List.getElem?_cons_zero,List.getElem?_cons_succ] at ha0 ha1 ha2 ha3;clear hd BA1);go_ret;exact ⟨rfl,HBB1.out,HG1.out,HG1.out.size⟩
 by_cases k2:kd=2
 ·subst k2;clear k1;rw [if_neg (by decide),if_pos rfl] at h;by_cases c1:xs=[]
  ·subst c1;rw [if_pos rfl] at h;by_cases c2:cls.toList=[]
   ·rw [if_pos c2] at h;have c3:cls=⟨#[]⟩:=l2_ba c2
    subst c3;clear c2;by_cases c4:K < -1000000
    ·exact ue85_6
    rw [if_neg c4] at h;have q4:decide (K < -1000000)=false:=cf_ c4
    clear c4;by_cases c5:1000000<K
    ·exact ue85_7
    rw [if_neg c5] at h;have q5:decide (1000000<K)=false:=cf_ c5
    clear c5;exact ue85_3
   exact ue85_2
  exact ue85_1
 by_cases k3:kd=3
 ·subst k3;clear k1 k2;rw [if_neg (by decide),if_neg (by decide),if_pos rfl] at h;by_cases c1:6<xs.length
  ·exact ue85_5
  rw [if_neg c1] at h;have q1:decide ((6:Int)<(xs.length:Int))=false:=decide_eq_false (by omega)
  clear c1;by_cases c2:cls.toList=[]
  ·rw [if_pos c2] at h;have c3:cls=⟨#[]⟩:=l2_ba c2
   subst c3;clear c2;by_cases c4:K < -1000000
   ·exact ue85_6
   rw [if_neg c4] at h;have q4:decide (K < -1000000)=false:=cf_ c4
   clear c4;by_cases c5:1000000<K
   ·exact ue85_7
   rw [if_neg c5] at h;have q5:decide (1000000<K)=false:=cf_ c5
   clear c5;have HH:Aside0 (spec_l2GoodAct.g k es (xs.drop 0) n=some (r,n')):=⟨h⟩
   clear h;go_enter Tryz.func160,Tryz.ntmps160;go_wp2;go_loopg [90] xs.length (fun gg v90 wr=>∃(i:Nat) (m:Int),i≤xs.length∧xs.length-i≤gg∧v90=.int .i64 (i:Int)∧Aside0 (spec_l2GoodAct.g k es (xs.drop i) m=some (r,n'))∧Aside0 (wr.heap[b]?=some (.cells #[.int .i64 m] 3 (0,0)))∧Aside0 (w.grownBy wr (some b))∧Aside0 (wr.heap[w.heap.size]?=some (.cells #[.string nm,.int .i64 sa,.slice A2 n2 c2,.slice A3 es.length c3,.slice A4 n4 c4] 39 (0,0))))
   case atStart=>exact ⟨0,n,Nat.zero_le _,Nat.le_refl _,rfl,HH,HBB,HG,BK⟩
   exact ue85_0
  exact ue85_2
 by_cases k4:kd=4
 ·subst k4;clear k1 k2 k3;rw [if_neg (by decide),if_neg (by decide),if_neg (by decide),if_pos rfl] at h;by_cases c1:xs=[]
  ·subst c1;rw [if_pos rfl] at h;by_cases c2:cls.toList=[]
   ·rw [if_pos c2] at h;have c3:cls=⟨#[]⟩:=l2_ba c2
    subst c3;clear c2;by_cases c4:K=0
    ·subst c4;rw [if_pos rfl] at h;exact ue85_3
    ·rw [if_neg c4] at h;cases h;have q4:(K==0)=false:=by simpa using c4
     have q5:(K != 0)=true:=by simpa using c4
     clear c4;go_enter Tryz.func160,Tryz.ntmps160;go_wp2;go_ret;exact ⟨rfl,HBB.out,HG.out,HG.out.size⟩
   exact ue85_2
  exact ue85_1
 rw [if_neg k1,if_neg k2,if_neg k3,if_neg k4] at h;cases h;have p1:(kd==1)=false:=by simpa using k1
 have p2:(kd==2)=false:=by simpa using k2
 have p3:(kd==3)=false:=by simpa using k3
 by_cases c1:kd<1
 ·have q1:decide (kd<1)=true:=ct_ c1
  clear c1 k1 k2 k3 k4;exact ue85_4
 ·have q1:decide (kd<1)=false:=cf_ c1
  have q2:decide (4<kd)=true:=decide_eq_true (by omega)
  clear c1 k1 k2 k3 k4;exact ue85_4
end Go.Proofs.YtahambloheoebaaGreatDoor.P
namespace Go.Proofs.YtahambloheoebaaGreatDoor.P
open Go.Proofs.YtahambloheoebaaGreatDoorX
open Go.RowKit Go.Proofs.YtahambloheoebaaGreatDoorW.PrintWords Go.Proofs.YtahambloheoebaaGreatDoorW.PrintLast Go.Proofs.YtahambloheoebaaGreatDoorW.PrintMore
attribute [local go_sem] max2_int min2_int max_two min_two max_three min_three max_four min_four
set_option linter.unusedVariables false
set_option linter.unusedSimpArgs false
open Go.Proofs.YtahambloheoebaaGreatDoorX
def spec_l2Shape.p (k:Nat):List S42→Nat→Option Int
 | [],_=>some (-1)
 | p::ps,i=>(spec_l2GoodPat.f k p.f0 p.f1 p.f2).bind fun g=>if g=true then spec_l2Shape.p k ps (i+1) else some ((i:Int)+1)
def spec_l2Shape.e (k:Nat) (es:List S161):Nat→Nat→Option Int
 | 0,_=>some (-1)
 | m+1,i=>(spec_l2GoodExpr.f k es (i:Int)).bind fun g=>if g=true then spec_l2Shape.e k es m (i+1) else some ((i:Int)+1)
def spec_l2Shape.a (k:Nat) (es:List S161):List S98→Nat→Int→Option (Int×Int)
 | [],_,n=>some (-1,n)
 | a::as_,i,n=>(spec_l2GoodAct.f k es a.f0 a.f1 a.f2 a.f3 n).bind fun y=>if y.1=true then spec_l2Shape.a k es as_ (i+1) y.2 else some ((i:Int)+1,y.2)
def spec_l2Shape.f (k:Nat) (nm:ByteArray) (sa:Int) (ps:List S42) (es:List S161) (as_:List S98):Option Int:=
 (spec_l1GoodSym.f k nm).bind fun g=>if g=true then (if 6<ps.length then some 0 else if 8<as_.length then some 0 else if 60<es.length then some 0 else
  (spec_l2Shape.p k ps 0).bind fun p=>if p=-1 then (spec_l2Shape.e k es es.length 0).bind fun e=>if e=-1 then (spec_l2Shape.a k es as_ 0 0).bind fun a=>if a.1=-1 then (if a.2=(es.length:Int) then some (-1) else some ((as_.length:Int)+1)) else some a.1 else some e else some p) else some 0
theorem spec_l2Shape.mono_p:∀ps i k,LeO (spec_l2Shape.p k ps i) (spec_l2Shape.p (k+1) ps i)
 | [],i,k=>LeO.refl _
 | p::ps,i,k=>LeO.bind (spec_l2GoodPat.mono _ _ _ k) (fun _=>LeO.ite (spec_l2Shape.mono_p ps _ k) (LeO.refl _))
theorem spec_l2Shape.mono_e:∀es m i k,LeO (spec_l2Shape.e k es m i) (spec_l2Shape.e (k+1) es m i)
 | es,0,i,k=>LeO.refl _
 | es,m+1,i,k=>LeO.bind (spec_l2GoodExpr.mono _ _ k) (fun _=>LeO.ite (spec_l2Shape.mono_e es m _ k) (LeO.refl _))
theorem spec_l2Shape.mono_a:∀es as_ i n k,LeO (spec_l2Shape.a k es as_ i n) (spec_l2Shape.a (k+1) es as_ i n)
 | es,[],i,n,k=>LeO.refl _
 | es,a::as_,i,n,k=>LeO.bind (spec_l2GoodAct.mono _ _ _ _ _ _ k) (fun _=>LeO.ite (spec_l2Shape.mono_a es as_ _ _ k) (LeO.refl _))
theorem spec_l2Shape.mono:∀a0 a1 a2 a3 a4 k,LeO (spec_l2Shape.f k a0 a1 a2 a3 a4) (spec_l2Shape.f (k+1) a0 a1 a2 a3 a4):=by
 intro a0 a1 a2 a3 a4 k;unfold spec_l2Shape.f
 exact LeO.bind (spec_l1GoodSym.mono _ k) (fun _=>LeO.ite (LeO.ite (LeO.refl _) (LeO.ite (LeO.refl _) (LeO.ite (LeO.refl _) (LeO.bind (spec_l2Shape.mono_p _ _ k) (fun _=>LeO.ite (LeO.bind (spec_l2Shape.mono_e _ _ _ k) (fun _=>LeO.ite (LeO.bind (spec_l2Shape.mono_a _ _ _ _ k) (fun _=>LeO.refl _)) (LeO.refl _))) (LeO.refl _)))))) (LeO.refl _))
theorem l2_p_cons (k:Nat) (ps:List S42) (i:Nat) (h:i<ps.length) (p:Int) (hg:spec_l2Shape.p k (ps.drop i) i=some p):((spec_l2GoodPat.f k (rd_T42 ps (i:Int)).f0 (rd_T42 ps (i:Int)).f1 (rd_T42 ps (i:Int)).f2).bind fun g=>if g=true then spec_l2Shape.p k (ps.drop (i+1)) (i+1) else some ((i:Int)+1))=some p:=by
 have e:rd_T42 ps (i:Int)=ps[i]:=by
  unfold rd_T42
  simp [h]
 rw [List.drop_eq_getElem_cons h] at hg;unfold spec_l2Shape.p at hg
 rw [e];exact hg
theorem l2_a_cons (k:Nat) (es:List S161) (as_:List S98) (i:Nat) (n:Int) (h:i<as_.length) (p:Int×Int) (hg:spec_l2Shape.a k es (as_.drop i) i n=some p):((spec_l2GoodAct.f k es (rd_T98 as_ (i:Int)).f0 (rd_T98 as_ (i:Int)).f1 (rd_T98 as_ (i:Int)).f2 (rd_T98 as_ (i:Int)).f3 n).bind fun y=>if y.1=true then spec_l2Shape.a k es (as_.drop (i+1)) (i+1) y.2 else some ((i:Int)+1,y.2))=some p:=by
 have e:rd_T98 as_ (i:Int)=as_[i]:=by
  unfold rd_T98
  simp [h]
 rw [List.drop_eq_getElem_cons h] at hg;unfold spec_l2Shape.a at hg
 rw [e];exact hg
theorem l2_e_cons (k:Nat) (es:List S161) (m i:Nat) (h:i<m) (p:Int) (hg:spec_l2Shape.e k es (m-i) i=some p):((spec_l2GoodExpr.f k es (i:Int)).bind fun g=>if g=true then spec_l2Shape.e k es (m-(i+1)) (i+1) else some ((i:Int)+1))=some p:=by
 rw [show m-i=(m-(i+1))+1 by omega] at hg;exact hg
set_option maxHeartbeats 8000000 in
set_option maxRecDepth 100000 in
theorem spec_l2Shape.walk (k:Nat) (nm:ByteArray) (sa:Int) (A2:Option Addr) (c2:Nat) (ps:List S42) (A3:Option Addr) (c3:Nat) (es:List S161) (A4:Option Addr) (c4:Nat) (as_:List S98) (r:Int) (w:World) (hr2:Kd.C k42 w A2 ps.length ps) (hr3:Kd.C k161 w A3 es.length es) (hc3:es.length≤c3) (hr4:Kd.C k98 w A4 as_.length as_) (h:spec_l2Shape.f k nm sa ps es as_=some r):
  Calls Tryz.prog 128 #[.agg #[.string nm,.int .i64 sa,.slice A2 ps.length c2,.slice A3 es.length c3,.slice A4 as_.length c4]] w fun e w'=>e=.returned (.int .i64 r)∧Below w.heap.size w w':=by
 have hu:=Tryz.underlying39;have hu2:=Tryz.underlying98;have hu3:=Tryz.underlying42;have HB:=a_ (below_alloc (Below.refl w.heap.size w) (.cells #[.string nm,.int .i64 sa,.slice A2 ps.length c2,.slice A3 es.length c3,.slice A4 as_.length c4] 39));have BK:=a_ (blk_new w (.cells #[.string nm,.int .i64 sa,.slice A2 ps.length c2,.slice A3 es.length c3,.slice A4 as_.length c4] 39));have HR2:=a_ hr2;have HR3:=a_ hr3;have HC3:=a_ hc3;have HR4:=a_ hr4;clear hr2 hr3 hc3 hr4;unfold spec_l2Shape.f at h
 obtain ⟨g,hg,h⟩:=Option.bind_eq_some_iff.1 h;have HG:=a_ hg;clear hg;cases g with
 | false=>
  rw [if_neg (by simp)] at h;cases h;go_enter Tryz.func128,Tryz.ntmps128;go_wp2_with (go_at_call 104;refine (spec_l1GoodSym.calls k nm false _ HG.out).mono ?_;rintro e w1 ⟨rfl,hd⟩;have HB1:Aside0 (Below w.heap.size w w1):=⟨below_step HB.out hd.below⟩;clear hd);go_ret;exact ⟨rfl,HB1.out⟩
 | true=>
 rw [if_pos rfl] at h;by_cases c1:6<ps.length
 ·rw [if_pos c1] at h;cases h;have q1:decide ((6:Int)<(ps.length:Int))=true:=decide_eq_true (by omega)
  clear c1;go_enter Tryz.func128,Tryz.ntmps128;go_wp2_with (go_at_call 104;refine (spec_l1GoodSym.calls k nm true _ HG.out).mono ?_;rintro e w1 ⟨rfl,hd⟩;have HB1:Aside0 (Below w.heap.size w w1):=⟨below_step HB.out hd.below⟩;have BK1:=a_ (blk_below BK.out hd.below);have ha0:=(blk_cell BK1.out 0).trans rfl;have ha1:=(blk_cell BK1.out 1).trans rfl;have ha2:=(blk_cell BK1.out 2).trans rfl;have ha3:=(blk_cell BK1.out 3).trans rfl;have ha4:=(blk_cell BK1.out 4).trans rfl;simp only [List.getElem?_toArray,List.getElem?_cons_zero,List.getElem?_cons_succ] at ha0 ha1 ha2 ha3 ha4;clear hd);go_ret;exact ⟨rfl,HB1.out⟩
 rw [if_neg c1] at h;have q1:decide ((6:Int)<(ps.length:Int))=false:=decide_eq_false (by omega)
 by_cases c2:8<as_.length
 ·rw [if_pos c2] at h;cases h;have q2:decide ((8:Int)<(as_.length:Int))=true:=decide_eq_true (by omega)
  clear c1 c2;go_enter Tryz.func128,Tryz.ntmps128;go_wp2_with (go_at_call 104;refine (spec_l1GoodSym.calls k nm true _ HG.out).mono ?_;rintro e w1 ⟨rfl,hd⟩;have HB1:Aside0 (Below w.heap.size w w1):=⟨below_step HB.out hd.below⟩;have BK1:=a_ (blk_below BK.out hd.below);have ha0:=(blk_cell BK1.out 0).trans rfl;have ha1:=(blk_cell BK1.out 1).trans rfl;have ha2:=(blk_cell BK1.out 2).trans rfl;have ha3:=(blk_cell BK1.out 3).trans rfl;have ha4:=(blk_cell BK1.out 4).trans rfl;simp only [List.getElem?_toArray,List.getElem?_cons_zero,List.getElem?_cons_succ] at ha0 ha1 ha2 ha3 ha4;clear hd);go_ret;exact ⟨rfl,HB1.out⟩
 rw [if_neg c2] at h;have q2:decide ((8:Int)<(as_.length:Int))=false:=decide_eq_false (by omega)
 by_cases c3:60<es.length
 ·rw [if_pos c3] at h;cases h;have q3:decide ((60:Int)<(es.length:Int))=true:=decide_eq_true (by omega)
  clear c1 c2 c3;go_enter Tryz.func128,Tryz.ntmps128;go_wp2_with (go_at_call 104;refine (spec_l1GoodSym.calls k nm true _ HG.out).mono ?_;rintro e w1 ⟨rfl,hd⟩;have HB1:Aside0 (Below w.heap.size w w1):=⟨below_step HB.out hd.below⟩;have BK1:=a_ (blk_below BK.out hd.below);have ha0:=(blk_cell BK1.out 0).trans rfl;have ha1:=(blk_cell BK1.out 1).trans rfl;have ha2:=(blk_cell BK1.out 2).trans rfl;have ha3:=(blk_cell BK1.out 3).trans rfl;have ha4:=(blk_cell BK1.out 4).trans rfl;simp only [List.getElem?_toArray,List.getElem?_cons_zero,List.getElem?_cons_succ] at ha0 ha1 ha2 ha3 ha4;clear hd);go_ret;exact ⟨rfl,HB1.out⟩
 rw [if_neg c3] at h;have q3:decide ((60:Int)<(es.length:Int))=false:=decide_eq_false (by omega)
 have C1:Aside0 (ps.length≤6):=⟨by omega⟩
 have C2:Aside0 (as_.length≤8):=⟨by omega⟩
 have C3:Aside0 (es.length≤60):=⟨by omega⟩
 clear c1 c2 c3;obtain ⟨p,hp,h⟩:=Option.bind_eq_some_iff.1 h;have HP:=a_ hp;have HH:=a_ h;clear hp h;go_enter Tryz.func128,Tryz.ntmps128;go_wp2_with (go_at_call 104;refine (spec_l1GoodSym.calls k nm true _ HG.out).mono ?_;rintro e w1 ⟨rfl,hd⟩;have HB1:Aside0 (Below w.heap.size w w1):=⟨below_step HB.out hd.below⟩;have BK1:=a_ (blk_below BK.out hd.below);have ha0:=(blk_cell BK1.out 0).trans rfl;have ha1:=(blk_cell BK1.out 1).trans rfl;have ha2:=(blk_cell BK1.out 2).trans rfl;have ha3:=(blk_cell BK1.out 3).trans rfl;have ha4:=(blk_cell BK1.out 4).trans rfl;simp only [List.getElem?_toArray,List.getElem?_cons_zero,List.getElem?_cons_succ] at ha0 ha1 ha2 ha3 ha4;clear hd);go_loopg [34] ps.length (fun gg v34 wr=>∃i:Nat,i≤ps.length∧ps.length-i≤gg∧v34=.int .i64 (i:Int)∧Aside0 (spec_l2Shape.p k (ps.drop i) i=some p)∧Aside0 (Below w.heap.size w wr)∧Aside0 (wr.heap[w.heap.size]?=some (.cells #[.string nm,.int .i64 sa,.slice A2 ps.length c2,.slice A3 es.length c3,.slice A4 as_.length c4] 39 (0,0))))
 case atStart=>exact ⟨0,Nat.zero_le _,Nat.le_refl _,rfl,HP,HB1,BK1⟩
 obtain ⟨i,hi,hgg,rfl,HP2,HB2,BK2⟩:=hrel;by_cases hlt:i<ps.length
 ·have hz:(i:Int)<(ps.length:Int):=by omega
  have hz0:(0:Int)≤(i:Int):=by omega
  obtain ⟨ad,A5,c5,e0,hx0,hx1,hx2,hl5,hC5⟩:=at_T42 HR2.out (i:Int) hz0 hz;cases e0;replace hx0:=(HB2.out.cell (World.block_lt_of_cell? w _ hx0)).trans hx0;replace hx1:=(HB2.out.cell (World.block_lt_of_cell? w _ hx1)).trans hx1;replace hx2:=(HB2.out.cell (World.block_lt_of_cell? w _ hx2)).trans hx2;simp only [Int.toNat_natCast] at hx0 hx1 hx2;have HC5:=a_ hC5;have HL5:=a_ hl5;clear hC5 hl5;have hst:=l2_p_cons k ps i hlt p HP2.out;generalize rd_T42 ps (i:Int)=p5 at *;obtain ⟨g5,hg5,hst⟩:=Option.bind_eq_some_iff.1 hst;have HG5:=a_ hg5;clear hg5;cases g5 with
  | false=>
   rw [if_neg (by simp)] at hst;have hpi:=Option.some.inj hst;have hrr:=HH.out;rw [if_neg (by omega)] at hrr;have hr2:=Option.some.inj hrr;subst hr2;have HPI:Aside0 ((i:Int)+1=p):=⟨hpi⟩
   clear hst hpi hrr;go_wp2_with (go_at_call 32;refine (spec_l2GoodPat.calls k p5.f0 p5.f1 A5 c5 p5.f2 false _ (Kd.C_below HC5.out (by repeat (first|exact HB2.out|apply below_alloc))) HL5.out HG5.out).mono ?_;rintro e w3 ⟨rfl,hd⟩;have HB3:Aside0 (Below w.heap.size w w3):=⟨below_step (by repeat (first|exact HB2.out|apply below_alloc)) hd⟩;have BK3:=a_ (blk_below (g:=w.heap.size) (blk_alloc BK2.out _) hd);clear hd);go_ret;exact ⟨by rw [←HPI.out,show wrap64 ((i:Int)+1)=(i:Int)+1 by unfold wrap64;have:=C1.out;omega];rfl,HB3.out⟩
  | true=>
   rw [if_pos rfl] at hst;have HST:=a_ hst;clear hst;go_wp2_with (go_at_call 32;refine (spec_l2GoodPat.calls k p5.f0 p5.f1 A5 c5 p5.f2 true _ (Kd.C_below HC5.out (by repeat (first|exact HB2.out|apply below_alloc))) HL5.out HG5.out).mono ?_;rintro e w3 ⟨rfl,hd⟩;have HB3:Aside0 (Below w.heap.size w w3):=⟨below_step (by repeat (first|exact HB2.out|apply below_alloc)) hd⟩;have BK3:=a_ (blk_below (g:=w.heap.size) (blk_alloc BK2.out _) hd);clear hd);go_roundg (ps.length-(i+1))
   case measure=>omega
   case rel=>exact ⟨i+1,by omega,by omega,by rw [show wrap64 ((i:Int)+1)=((i+1:Nat):Int) by unfold wrap64;have:=C1.out;omega],HST,HB3,BK3⟩
 ·have hil:i=ps.length:=by omega
  subst hil;have e0:=HP2.out;rw [List.drop_length] at e0;unfold spec_l2Shape.p at e0
  have e1:=Option.some.inj e0;subst e1;have h2:=HH.out;rw [if_pos rfl] at h2;obtain ⟨ee,he,h2⟩:=Option.bind_eq_some_iff.1 h2;have HE:Aside0 (spec_l2Shape.e k es (es.length-0) 0=some ee):=⟨he⟩
  have HH2:=a_ h2;clear he h2 e0 HP2 HH HP;have ha0:=(blk_cell BK2.out 3).trans rfl;simp only [List.getElem?_toArray,List.getElem?_cons_zero,List.getElem?_cons_succ] at ha0;go_wp2;go_loopg [48] es.length (fun gg v48 wr=>∃i:Nat,i≤es.length∧es.length-i≤gg∧v48=.int .i64 (i:Int)∧Aside0 (spec_l2Shape.e k es (es.length-i) i=some ee)∧Aside0 (Below w.heap.size w wr)∧Aside0 (wr.heap[w.heap.size]?=some (.cells #[.string nm,.int .i64 sa,.slice A2 ps.length c2,.slice A3 es.length c3,.slice A4 as_.length c4] 39 (0,0))))
  case atStart=>exact ⟨0,Nat.zero_le _,Nat.le_refl _,rfl,HE,HB2,BK2⟩
  obtain ⟨i,hi,hgg,rfl,HE2,HB4,BK4⟩:=hrel;have hb0:=(blk_cell BK4.out 3).trans rfl;simp only [List.getElem?_toArray,List.getElem?_cons_zero,List.getElem?_cons_succ] at hb0;by_cases hlt:i<es.length
  ·have hz:(i:Int)<(es.length:Int):=by omega
   have hst:=l2_e_cons k es es.length i hlt ee HE2.out;obtain ⟨g5,hg5,hst⟩:=Option.bind_eq_some_iff.1 hst;have HG5:=a_ hg5;clear hg5;cases g5 with
   | false=>
    rw [if_neg (by simp)] at hst;have hpi:=Option.some.inj hst;have hrr:=HH2.out;rw [if_neg (by omega)] at hrr;have hr2:=Option.some.inj hrr;subst hr2;have HPI:Aside0 ((i:Int)+1=ee):=⟨hpi⟩
    clear hst hpi hrr;go_wp2_with (go_at_call 159;refine (spec_l2GoodExpr.calls k A3 c3 es (i:Int) false _ (Kd.C_below HR3.out (by repeat (first|exact HB4.out|apply below_alloc))) HC3.out HG5.out).mono ?_;rintro e w3 ⟨rfl,hd⟩;have HB5:Aside0 (Below w.heap.size w w3):=⟨below_step HB4.out hd⟩;have BK5:=a_ (blk_below (g:=w.heap.size) BK4.out hd);clear hd);go_ret;exact ⟨by rw [←HPI.out,show wrap64 ((i:Int)+1)=(i:Int)+1 by unfold wrap64;have:=C3.out;omega];rfl,HB5.out⟩
   | true=>
    rw [if_pos rfl] at hst;have HST:=a_ hst;clear hst;go_wp2_with (go_at_call 159;refine (spec_l2GoodExpr.calls k A3 c3 es (i:Int) true _ (Kd.C_below HR3.out (by repeat (first|exact HB4.out|apply below_alloc))) HC3.out HG5.out).mono ?_;rintro e w3 ⟨rfl,hd⟩;have HB5:Aside0 (Below w.heap.size w w3):=⟨below_step HB4.out hd⟩;have BK5:=a_ (blk_below (g:=w.heap.size) BK4.out hd);clear hd);go_roundg (es.length-(i+1))
    case measure=>omega
    case rel=>exact ⟨i+1,by omega,by omega,by rw [show wrap64 ((i:Int)+1)=((i+1:Nat):Int) by unfold wrap64;have:=C3.out;omega],HST,HB5,BK5⟩
  ·have hil:i=es.length:=by omega
   subst hil;have e0:=HE2.out;rw [Nat.sub_self] at e0;unfold spec_l2Shape.e at e0
   have e1:=Option.some.inj e0;subst e1;have h3:=HH2.out;rw [if_pos rfl] at h3;obtain ⟨aa,haa,h3⟩:=Option.bind_eq_some_iff.1 h3;have HA:Aside0 (spec_l2Shape.a k es (as_.drop 0) 0 0=some aa):=⟨haa⟩
   have HH3:=a_ h3;clear haa h3 e0 HE2 HH2 HE;have hb4:=(blk_cell BK4.out 4).trans rfl;simp only [List.getElem?_toArray,List.getElem?_cons_zero,List.getElem?_cons_succ] at hb4;obtain ⟨wq,hwq⟩:∃x,x=wr:=⟨_,rfl⟩;subst hwq;have hs1:w.heap.size+1≤wq.heap.size:=lt_of_block BK4.out
   have HS1:=a_ hs1;have hb5:=(blk_cell (blk_alloc BK4.out (.cells #[.int .i64 0] 3)) 4).trans rfl;simp only [List.getElem?_toArray,List.getElem?_cons_zero,List.getElem?_cons_succ] at hb5;go_wp2;go_loopg [62] as_.length (fun gg v62 wr=>∃(i:Nat) (m:Int),i≤as_.length∧as_.length-i≤gg∧v62=.int .i64 (i:Int)∧Aside0 (spec_l2Shape.a k es (as_.drop i) i m=some aa)∧Aside0 (Below w.heap.size w wr)∧Aside0 (wr.heap[w.heap.size]?=some (.cells #[.string nm,.int .i64 sa,.slice A2 ps.length c2,.slice A3 es.length c3,.slice A4 as_.length c4] 39 (0,0)))∧Aside0 (wr.heap[wq.heap.size]?=some (.cells #[.int .i64 m] 3 (0,0))))
   case atStart=>exact ⟨0,0,Nat.zero_le _,Nat.le_refl _,rfl,HA,⟨below_alloc HB4.out _⟩,⟨blk_alloc BK4.out _⟩,⟨blk_new wq _⟩⟩
   obtain ⟨i,m,hi,hgg,rfl,HA2,HB6,BK6,BN6⟩:=hrel;have hd0:=(blk_cell BK6.out 0).trans rfl;have hd1:=(blk_cell BK6.out 1).trans rfl;have hd2:=(blk_cell BK6.out 2).trans rfl;have hd3:=(blk_cell BK6.out 3).trans rfl;have hd4:=(blk_cell BK6.out 4).trans rfl;simp only [List.getElem?_toArray,List.getElem?_cons_zero,List.getElem?_cons_succ] at hd0 hd1 hd2 hd3 hd4;have hn6:=cell_of_one BN6.out;have hs6:w.heap.size+1≤wr.heap.size:=lt_of_block BK6.out
   have hs7:wq.heap.size+1≤wr.heap.size:=lt_of_block BN6.out
   by_cases hlt:i<as_.length
   ·have hz:(i:Int)<(as_.length:Int):=by omega
    have hz0:(0:Int)≤(i:Int):=by omega
    obtain ⟨ad,A7,c7,e0,hx0,hx1,hx2,hx3,hl7,hC7⟩:=at_T98 HR4.out (i:Int) hz0 hz;cases e0;replace hx0:=(HB6.out.cell (World.block_lt_of_cell? w _ hx0)).trans hx0;replace hx1:=(HB6.out.cell (World.block_lt_of_cell? w _ hx1)).trans hx1;replace hx2:=(HB6.out.cell (World.block_lt_of_cell? w _ hx2)).trans hx2;replace hx3:=(HB6.out.cell (World.block_lt_of_cell? w _ hx3)).trans hx3;simp only [Int.toNat_natCast] at hx0 hx1 hx2 hx3;have HC7:=a_ hC7;have hst:=l2_a_cons k es as_ i m hlt aa HA2.out;clear hC7 hl7;generalize rd_T98 as_ (i:Int)=a7 at *;have BKA:=blk_alloc BK6.out (.cells #[.int .i64 a7.f0,.int .i64 a7.f1,.string a7.f2,.slice A7 a7.f3.length c7] 98);have he0:=(blk_cell BKA 0).trans rfl;have he1:=(blk_cell BKA 1).trans rfl;have he2:=(blk_cell BKA 2).trans rfl;have he3:=(blk_cell BKA 3).trans rfl;have he4:=(blk_cell BKA 4).trans rfl;simp only [List.getElem?_toArray,List.getElem?_cons_zero,List.getElem?_cons_succ] at he0 he1 he2 he3 he4;clear BKA;obtain ⟨⟨g7,m7⟩,hg7,hst⟩:=Option.bind_eq_some_iff.1 hst;have HG7:=a_ hg7;clear hg7;cases g7 with
    | false=>
     rw [if_neg (by simp)] at hst;have hpi:=Option.some.inj hst;have hrr:=HH3.out;rw [←hpi,if_neg (by show ¬((i:Int)+1=-1);omega)] at hrr;have hr2:=Option.some.inj hrr;have HPI:Aside0 ((i:Int)+1=r):=⟨hr2⟩
     clear hst hpi hrr hr2;go_wp2_with (go_at_call 160;refine (spec_l2GoodAct.calls k nm sa A2 ps.length c2 A3 c3 es (some ad) as_.length c4 a7.f0 a7.f1 a7.f2 A7 c7 a7.f3 wq.heap.size m m7 false w _ (below_alloc HB6.out _) HR3.out HC3.out HC7.out (blk_alloc BN6.out _) (Nat.le_of_succ_le HS1.out) HG7.out).mono ?_;rintro e w7 ⟨rfl,hbn,hgr,hsz⟩;have HB8:Aside0 (Below w.heap.size w w7):=⟨(below_alloc HB6.out _).grown hgr (below_alloc HB6.out _).size (by intro q e;injection e with e;have:=HS1.out;omega)⟩;have BK8:=a_ ((hgr.block w.heap.size (lt_of_block (blk_alloc BK6.out _)) (by intro e;injection e with e;have:=HS1.out;omega)).trans (blk_alloc BK6.out _));have BN8:=a_ hbn;clear hbn hgr hsz);go_ret;exact ⟨by rw [←HPI.out,show wrap64 ((i:Int)+1)=(i:Int)+1 by unfold wrap64;have:=C2.out;omega];rfl,HB8.out⟩
    | true=>
     rw [if_pos rfl] at hst;have HST:=a_ hst;clear hst;go_wp2_with (go_at_call 160;refine (spec_l2GoodAct.calls k nm sa A2 ps.length c2 A3 c3 es (some ad) as_.length c4 a7.f0 a7.f1 a7.f2 A7 c7 a7.f3 wq.heap.size m m7 true w _ (below_alloc HB6.out _) HR3.out HC3.out HC7.out (blk_alloc BN6.out _) (Nat.le_of_succ_le HS1.out) HG7.out).mono ?_;rintro e w7 ⟨rfl,hbn,hgr,hsz⟩;have HB8:Aside0 (Below w.heap.size w w7):=⟨(below_alloc HB6.out _).grown hgr (below_alloc HB6.out _).size (by intro q e;injection e with e;have:=HS1.out;omega)⟩;have BK8:=a_ ((hgr.block w.heap.size (lt_of_block (blk_alloc BK6.out _)) (by intro e;injection e with e;have:=HS1.out;omega)).trans (blk_alloc BK6.out _));have BN8:=a_ hbn;clear hbn hgr hsz);go_roundg (as_.length-(i+1))
     case measure=>omega
     case rel=>exact ⟨i+1,m7,by omega,by omega,by rw [show wrap64 ((i:Int)+1)=((i+1:Nat):Int) by unfold wrap64;have:=C2.out;omega],HST,HB8,BK8,BN8⟩
   ·have hil:i=as_.length:=by omega
    subst hil;have e0:=HA2.out;rw [List.drop_length] at e0;unfold spec_l2Shape.a at e0
    have e1:=Option.some.inj e0;subst e1;have h4:=HH3.out;rw [if_pos rfl] at h4;clear e0 HA2 HH3 HA;by_cases d1:m=(es.length:Int)
    ·subst d1;rw [if_pos rfl] at h4;cases h4;go_wp2;go_ret;exact ⟨rfl,HB6.out⟩
    ·rw [if_neg d1] at h4;have h5:=Option.some.inj h4;subst h5;have q7:(m==(es.length:Int))=false:=by simpa using d1
     have q8:(m != (es.length:Int))=true:=by simpa using d1
     clear d1 h4;go_wp2;go_ret;exact ⟨by rw [show wrap64 ((as_.length:Int)+1)=(as_.length:Int)+1 by unfold wrap64;have:=C2.out;omega];rfl,HB6.out⟩
theorem spec_l2Shape.calls (k:Nat) (a0_0:ByteArray) (a0_1:Int) (A0_2:Option Addr) (c0_2:Nat) (l0_2:List S42) (A0_3:Option Addr) (c0_3:Nat) (l0_3:List S161) (A0_4:Option Addr) (c0_4:Nat) (l0_4:List S98) (r:Int) (w:World) (hr0_2:Kd.C k42 w A0_2 l0_2.length l0_2) (hc0_2:l0_2.length≤c0_2) (hr0_3:Kd.C k161 w A0_3 l0_3.length l0_3) (hc0_3:l0_3.length≤c0_3) (hr0_4:Kd.C k98 w A0_4 l0_4.length l0_4) (hc0_4:l0_4.length≤c0_4) (h:spec_l2Shape.f k a0_0 a0_1 l0_2 l0_3 l0_4=some r):
  Calls Tryz.prog 128 #[.agg #[.string a0_0,.int .i64 a0_1,.slice A0_2 l0_2.length c0_2,.slice A0_3 l0_3.length c0_3,.slice A0_4 l0_4.length c0_4]] w fun e w'=>e=.returned (.int .i64 r)∧Below w.heap.size w w':=
 spec_l2Shape.walk k a0_0 a0_1 A0_2 c0_2 l0_2 A0_3 c0_3 l0_3 A0_4 c0_4 l0_4 r w hr0_2 hr0_3 hc0_3 hr0_4 h
end Go.Proofs.YtahambloheoebaaGreatDoor.P
namespace Go.Proofs.YtahambloheoebaaGreatDoor.P
open Go.Proofs.YtahambloheoebaaGreatDoorX
open Go.RowKit Go.Proofs.YtahambloheoebaaGreatDoorW.PrintWords Go.Proofs.YtahambloheoebaaGreatDoorW.PrintLast Go.Proofs.YtahambloheoebaaGreatDoorW.PrintMore
attribute [local go_sem] max2_int min2_int max_two min_two max_three min_three max_four min_four
set_option linter.unusedVariables false
set_option linter.unusedSimpArgs false
def spec_l2Positive.l0:Nat→Int→List (S42)→Int→Int→Option (Int)
 | 0,_,_,_,_=>none
 | k+1,x3,x7,x8,x9=>if x9<x8 then (if 0≤x9 then (if x9<(x7.length:Int) then (if ((rd_T42 x7 x9).f0=true) then (spec_l2Positive.l0 k x3 x7 x8 (wrap64 (x9+1))) else (spec_l2Positive.l0 k (wrap64 (x3+1)) x7 x8 (wrap64 (x9+1)))) else (none)) else (none)) else (some x3)
def spec_l2Positive.f (k:Nat) (a0_0:ByteArray) (a0_1:Int) (l0_2:List (S42)) (l0_3:List (S161)) (l0_4:List (S98)):Option (Int):=spec_l2Positive.l0 k 0 l0_2 (l0_2.length:Int) 0
theorem spec_l2Positive.mono_l:∀k,(∀y0 y1 y2 y3,LeO (spec_l2Positive.l0 k y0 y1 y2 y3) (spec_l2Positive.l0 (k+1) y0 y1 y2 y3))
 | 0=>fun _ _ _ _ r h=>by simp [spec_l2Positive.l0] at h
 | k+1=>by
  have ih0:=spec_l2Positive.mono_l k
  ·intro y0 y1 y2 y3;unfold spec_l2Positive.l0
   repeat' with_reducible first|apply ih0|apply LeO.refl|apply LeO.none|refine LeO.ite ?_ ?_|refine LeO.bind ?_ (fun _=>?_)
theorem spec_l2Positive.mono:∀a0 a1 a2 a3 a4 k,LeO (spec_l2Positive.f k a0 a1 a2 a3 a4) (spec_l2Positive.f (k+1) a0 a1 a2 a3 a4):=by
 intro a0 a1 a2 a3 a4 k;have ih0:=spec_l2Positive.mono_l k;unfold spec_l2Positive.f
 repeat' with_reducible first|apply ih0|apply LeO.refl|apply LeO.none|refine LeO.ite ?_ ?_|refine LeO.bind ?_ (fun _=>?_)
set_option maxHeartbeats 8000000 in
set_option maxRecDepth 100000 in
theorem spec_l2Positive.calls (k:Nat) (a0_0:ByteArray) (a0_1:Int) (A0_2:Option Addr) (c0_2:Nat) (l0_2:List (S42)) (A0_3:Option Addr) (c0_3:Nat) (l0_3:List (S161)) (A0_4:Option Addr) (c0_4:Nat) (l0_4:List (S98)) (r:Int) (w:World) (hr0_2:Kd.C k42 w A0_2 l0_2.length l0_2) (hc0_2:l0_2.length≤c0_2) (hr0_3:Kd.C k161 w A0_3 l0_3.length l0_3) (hc0_3:l0_3.length≤c0_3) (hr0_4:Kd.C k98 w A0_4 l0_4.length l0_4) (hc0_4:l0_4.length≤c0_4) (h:spec_l2Positive.f k a0_0 a0_1 l0_2 l0_3 l0_4=some r):
  Calls Tryz.prog 129 #[.agg #[.string a0_0,.int .i64 a0_1,.slice A0_2 l0_2.length c0_2,.slice A0_3 l0_3.length c0_3,.slice A0_4 l0_4.length c0_4]] w fun e w'=>e=.returned (.int .i64 r)∧Below w.heap.size w w':=by
 have hu39:=Tryz.underlying39;have hu42:=Tryz.underlying42;have HR0_2:=a_ hr0_2;have HC0_2:=a_ hc0_2;clear hr0_2 hc0_2;have HR0_3:=a_ hr0_3;have HC0_3:=a_ hc0_3;clear hr0_3 hc0_3;have HR0_4:=a_ hr0_4;have HC0_4:=a_ hc0_4;clear hr0_4 hc0_4;have HB:=a_ (Below.refl w.heap.size w);have H:(spec_l2Positive.l0 k 0 l0_2 (l0_2.length:Int) 0)=some r:=h
 clear h;have H':=a_ H;clear H;go_enter Tryz.func129,Tryz.ntmps129;go_wp2_with (first|((with_reducible refine gate_dst (N:=1) rfl ?_);refine bh_ 1 #[.string a0_0,.int .i64 a0_1,.slice A0_2 l0_2.length c0_2,.slice A0_3 l0_3.length c0_3,.slice A0_4 l0_4.length c0_4] 39 HB ?_;intro gb170 hg wx BK170 GE170 hb;replace HB:=ms_ HB hb;clear hb hg;replace hz170:=cz5 BK170));go_loopg [3,9] k (fun kq v3 v9 w'=>∃(x3_1:Int) (x9_1:Int),v3=.int .i64 x3_1∧v9=.int .i64 x9_1∧Aside0 (spec_l2Positive.l0 kq x3_1 l0_2 (l0_2.length:Int) x9_1=some r)∧Aside0 (kq≤k)∧Aside0 (w'.heap[gb170]?=some (.cells #[.string a0_0,.int .i64 a0_1,(.slice A0_2 l0_2.length c0_2),(.slice A0_3 l0_3.length c0_3),(.slice A0_4 l0_4.length c0_4)] 39 (0,0)))∧Aside0 (Below w.heap.size w w'))
 case atStart=>exact ⟨(0),(0),mq_,mq_,H',⟨Nat.le_refl _⟩,⟨mc_ BK170⟩,⟨mb_ HB⟩⟩
 clear H';(try clear hz170);obtain ⟨x3_1,x9_1,rfl,rfl,HA,HK1,BK170,HB⟩:=hrel;obtain _|k1:=gk
 ·exact absurd HA.out (by simp [spec_l2Positive.l0])
 have H:=HA.out;clear HA;simp only [spec_l2Positive.l0] at H;by_cases c4:x9_1<(l0_2.length:Int)
 ·rw [if_pos c4] at H;have c4b0:=ct_ c4;clear c4;by_cases c5:0≤x9_1
  case neg=>
   rw [if_neg c5] at H;cases H
  rw [if_pos c5] at H;have c5b0:=ct_ c5;clear c5;by_cases c6:x9_1<(l0_2.length:Int)
  case neg=>
   rw [if_neg c6] at H;cases H
  rw [if_pos c6] at H;have c6b0:=ct_ c6;clear c6;obtain ⟨bq7,hbq7⟩:∃b_:Bool,b_=((rd_T42 l0_2 x9_1).f0):=⟨_,rfl⟩;replace H:(if (bq7=true) then (spec_l2Positive.l0 k1 x3_1 l0_2 (l0_2.length:Int) (wrap64 (x9_1+1))) else (spec_l2Positive.l0 k1 (wrap64 (x3_1+1)) l0_2 (l0_2.length:Int) (wrap64 (x9_1+1))))=some r:=by rw [←hbq7] at H;exact H
  have Nbq7:=a_ hbq7;clear hbq7;by_cases c8:(bq7=true)
  ·subst c8;rw [if_pos rfl] at H;have H':=a_ H;clear H;have p171:0≤(x9_1:Int):=md_
   have q171:x9_1<(l0_2.length:Int):=md_
   obtain ⟨ad171,A171_2,c171_2,e171,hx171_0,hx171_1,hx171_2,hl171_2,hi171_2⟩:=at_T42 HR0_2.out x9_1 p171 q171;(try rw [←Nbq7.out] at hx171_0);cases e171;replace hx171_0:=mx_ HB hx171_0;replace hx171_1:=mx_ HB hx171_1;replace hx171_2:=mx_ HB hx171_2;have HR171_2:=a_ hi171_2;have HC171_2:=a_ hl171_2;clear hi171_2 hl171_2;replace p171:=eq_true p171;replace q171:=eq_true q171;go_wp2_with (first|((with_reducible refine gate_dst (N:=5) rfl ?_);refine bh_ 5 #[.bool false,.string (⟨#[]⟩:ByteArray),.slice none 0 0] 42 HB ?_;intro gb172 hg wx BK172 GE172 hb;obtain ⟨NB170_172,NB172_170⟩:=mn_ BK170 hg;replace BK170:=mk_ BK170 hb;replace HB:=ms_ HB hb;clear hb hg;have nNB172_170:=NB172_170.out;have nNB170_172:=NB170_172.out;replace hz172:=cz3 BK172));go_roundg k1
   case measure=>
    have:=HK1.out
    omega
   case rel=>exact ⟨(x3_1),(wrap64 (x9_1+1)),mq_,mq_,H',⟨by have:=HK1.out;omega⟩,⟨mc_ BK170⟩,⟨mb_ HB⟩⟩
  ·replace c8:=Bool.eq_false_iff.mpr c8;subst c8;rw [if_neg (show ¬(false=true) by decide)] at H;have H':=a_ H;clear H;have p171:0≤(x9_1:Int):=md_
   have q171:x9_1<(l0_2.length:Int):=md_
   obtain ⟨ad171,A171_2,c171_2,e171,hx171_0,hx171_1,hx171_2,hl171_2,hi171_2⟩:=at_T42 HR0_2.out x9_1 p171 q171;(try rw [←Nbq7.out] at hx171_0);cases e171;replace hx171_0:=mx_ HB hx171_0;replace hx171_1:=mx_ HB hx171_1;replace hx171_2:=mx_ HB hx171_2;have HR171_2:=a_ hi171_2;have HC171_2:=a_ hl171_2;clear hi171_2 hl171_2;replace p171:=eq_true p171;replace q171:=eq_true q171;go_wp2_with (first|((with_reducible refine gate_dst (N:=5) rfl ?_);refine bh_ 5 #[.bool false,.string (⟨#[]⟩:ByteArray),.slice none 0 0] 42 HB ?_;intro gb172 hg wx BK172 GE172 hb;obtain ⟨NB170_172,NB172_170⟩:=mn_ BK170 hg;replace BK170:=mk_ BK170 hb;replace HB:=ms_ HB hb;clear hb hg;have nNB172_170:=NB172_170.out;have nNB170_172:=NB170_172.out;replace hz172:=cz3 BK172));go_roundg k1
   case measure=>
    have:=HK1.out
    omega
   case rel=>exact ⟨(wrap64 (x3_1+1)),(wrap64 (x9_1+1)),mq_,mq_,H',⟨by have:=HK1.out;omega⟩,⟨mc_ BK170⟩,⟨mb_ HB⟩⟩
 ·rw [if_neg c4] at H;have c4b0:=cf_ c4;clear c4;obtain rfl:=oi_ H;go_wp2;go_ret;exact ⟨me_,mb_ HB⟩
end Go.Proofs.YtahambloheoebaaGreatDoor.P
namespace Go.Proofs.YtahambloheoebaaGreatDoor.P
open Go.Proofs.YtahambloheoebaaGreatDoorX
open Go.RowKit Go.Proofs.YtahambloheoebaaGreatDoorW.PrintWords Go.Proofs.YtahambloheoebaaGreatDoorW.PrintLast Go.Proofs.YtahambloheoebaaGreatDoorW.PrintMore
attribute [local go_sem] max2_int min2_int max_two min_two max_three min_three max_four min_four
set_option linter.unusedVariables false
set_option linter.unusedSimpArgs false
mutual
def spec_l2Scope.l0:Nat→List ByteArray→List (S42)→Int→Int→ByteArray→Int→List (S42)→List (S161)→List (S98)→Option (Int)
 | 0,_,_,_,_,_,_,_,_,_=>none
 | k+1,x3,x14,x15,x16,x174000,x174001,x174002,x174003,x174004=>if x16<x15 then (if 0≤x16 then (if x16<(x14.length:Int) then (if ([]:List ByteArray).length+x3.length<8796093022208 then (spec_l2Scope.l1 k x3 x16 (([]:List ByteArray)++x3) x14 x15 x16 ((rd_T42 x14 x16).f2) (((rd_T42 x14 x16).f2).length:Int) 0 x174000 x174001 x174002 x174003 x174004 ((rd_T42 x14 x16).f0) ((rd_T42 x14 x16).f1) ((rd_T42 x14 x16).f2)) else (none)) else (none)) else (none)) else (spec_l2Scope.l2 k x3 x174004 (x174004.length:Int) 0 x174000 x174001 x174002 x174003 x174004)
def spec_l2Scope.l1:Nat→List ByteArray→Int→List ByteArray→List (S42)→Int→Int→List (S86)→Int→Int→ByteArray→Int→List (S42)→List (S161)→List (S98)→Bool→ByteArray→List (S86)→Option (Int)
 | 0,_,_,_,_,_,_,_,_,_,_,_,_,_,_,_,_,_=>none
 | k+1,x3,x4,x6,x14,x15,x16,x25,x26,x27,x174000,x174001,x174002,x174003,x174004,x176000,x176001,x176002=>if x27<x26 then (if 0≤x27 then (if x27<(x25.length:Int) then (if ((rd_T86 x25 x27).f0)=3 then (if ((rd_T86 x25 x27).f2).toList=([]:List UInt8) then (spec_l2Scope.j2 k x3 x4 x6 x14 x15 x16 x25 x26 x27 false x174000 x174001 x174002 x174003 x174004 x176000 x176001 x176002 ((rd_T86 x25 x27).f0) ((rd_T86 x25 x27).f1) ((rd_T86 x25 x27).f2) ((rd_T86 x25 x27).f3.f0) ((rd_T86 x25 x27).f3.f1) ((rd_T86 x25 x27).f3.f2)) else ((spec_l2Is.f k ((rd_T86 x25 x27).f2) x6).bind fun t181=>(spec_l2Scope.j2 k x3 x4 x6 x14 x15 x16 x25 x26 x27 (!t181) x174000 x174001 x174002 x174003 x174004 x176000 x176001 x176002 ((rd_T86 x25 x27).f0) ((rd_T86 x25 x27).f1) ((rd_T86 x25 x27).f2) ((rd_T86 x25 x27).f3.f0) ((rd_T86 x25 x27).f3.f1) ((rd_T86 x25 x27).f3.f2)))) else (spec_l2Scope.j2 k x3 x4 x6 x14 x15 x16 x25 x26 x27 false x174000 x174001 x174002 x174003 x174004 x176000 x176001 x176002 ((rd_T86 x25 x27).f0) ((rd_T86 x25 x27).f1) ((rd_T86 x25 x27).f2) ((rd_T86 x25 x27).f3.f0) ((rd_T86 x25 x27).f3.f1) ((rd_T86 x25 x27).f3.f2))) else (none)) else (none)) else (if x176000=true then (spec_l2Scope.l0 k x3 x14 x15 (wrap64 (x16+1)) x174000 x174001 x174002 x174003 x174004) else (spec_l2Scope.l0 k x6 x14 x15 (wrap64 (x16+1)) x174000 x174001 x174002 x174003 x174004))
def spec_l2Scope.j2:Nat→List ByteArray→Int→List ByteArray→List (S42)→Int→Int→List (S86)→Int→Int→Bool→ByteArray→Int→List (S42)→List (S161)→List (S98)→Bool→ByteArray→List (S86)→Int→Int→ByteArray→Int→Int→ByteArray→Option (Int)
 | 0,_,_,_,_,_,_,_,_,_,_,_,_,_,_,_,_,_,_,_,_,_,_,_,_=>none
 | k+1,x3,x4,x6,x14,x15,x16,x25,x26,x27,x45,x174000,x174001,x174002,x174003,x174004,x176000,x176001,x176002,x181000,x181001,x181002,x181003,x181004,x181005=>if x45=true then (some (wrap64 (x4+1))) else (if x181000=2 then (if x6.length<8796093022208 then (spec_l2Scope.l1 k x3 x4 (x6++[x181002]) x14 x15 x16 x25 x26 (wrap64 (x27+1)) x174000 x174001 x174002 x174003 x174004 x176000 x176001 x176002) else (none)) else (spec_l2Scope.l1 k x3 x4 x6 x14 x15 x16 x25 x26 (wrap64 (x27+1)) x174000 x174001 x174002 x174003 x174004 x176000 x176001 x176002))
def spec_l2Scope.l2:Nat→List ByteArray→List (S98)→Int→Int→ByteArray→Int→List (S42)→List (S161)→List (S98)→Option (Int)
 | 0,_,_,_,_,_,_,_,_,_=>none
 | k+1,x3,x63,x64,x65,x174000,x174001,x174002,x174003,x174004=>if x65<x64 then (if 0≤x65 then (if x65<(x63.length:Int) then (if (((rd_T98 x63 x65).f3).length:Int)=0 then (spec_l2Scope.l2 k x3 x63 x64 (wrap64 (x65+1)) x174000 x174001 x174002 x174003 x174004) else (if 0<(((rd_T98 x63 x65).f3).length:Int) then ((spec_l2First.f k x174003 (rd ((rd_T98 x63 x65).f3) 0)).bind fun t188=>(spec_l2Scope.l3 k x3 x65 t188 x63 x64 x65 x174000 x174001 x174002 x174003 x174004 ((rd_T98 x63 x65).f0) ((rd_T98 x63 x65).f1) ((rd_T98 x63 x65).f2) ((rd_T98 x63 x65).f3))) else (none))) else (none)) else (none)) else (some (-1))
def spec_l2Scope.l3:Nat→List ByteArray→Int→Int→List (S98)→Int→Int→ByteArray→Int→List (S42)→List (S161)→List (S98)→Int→Int→ByteArray→List Int→Option (Int)
 | 0,_,_,_,_,_,_,_,_,_,_,_,_,_,_,_=>none
 | k+1,x3,x9,x11,x63,x64,x65,x174000,x174001,x174002,x174003,x174004,x187000,x187001,x187002,x187003=>if 0≤(wrap64 ((x187003.length:Int)-1)) then (if (wrap64 ((x187003.length:Int)-1))<(x187003.length:Int) then (if x11≤(rd x187003 (wrap64 ((x187003.length:Int)-1))) then (if 0≤x11 then (if x11<(x174003.length:Int) then (if ((rd_T161 x174003 x11).f0)=1 then ((spec_l2Is.f k ((rd_T161 x174003 x11).f2) x3).bind fun t192=>(if t192=true then (spec_l2Scope.l3 k x3 x9 (wrap64 (x11+1)) x63 x64 x65 x174000 x174001 x174002 x174003 x174004 x187000 x187001 x187002 x187003) else (some (wrap64 ((wrap64 ((x174002.length:Int)+x9))+1))))) else (spec_l2Scope.l3 k x3 x9 (wrap64 (x11+1)) x63 x64 x65 x174000 x174001 x174002 x174003 x174004 x187000 x187001 x187002 x187003)) else (none)) else (none)) else (spec_l2Scope.l2 k x3 x63 x64 (wrap64 (x65+1)) x174000 x174001 x174002 x174003 x174004)) else (none)) else (none)
end
def spec_l2Scope.f (k:Nat) (a0_0:ByteArray) (a0_1:Int) (l0_2:List (S42)) (l0_3:List (S161)) (l0_4:List (S98)):Option (Int):=spec_l2Scope.l0 k ([]:List ByteArray) l0_2 (l0_2.length:Int) 0 a0_0 a0_1 l0_2 l0_3 l0_4
theorem spec_l2Scope.mono_l:∀k,(∀y0 y1 y2 y3 y4 y5 y6 y7 y8,LeO (spec_l2Scope.l0 k y0 y1 y2 y3 y4 y5 y6 y7 y8) (spec_l2Scope.l0 (k+1) y0 y1 y2 y3 y4 y5 y6 y7 y8))∧(∀y0 y1 y2 y3 y4 y5 y6 y7 y8 y9 y10 y11 y12 y13 y14 y15 y16,LeO (spec_l2Scope.l1 k y0 y1 y2 y3 y4 y5 y6 y7 y8 y9 y10 y11 y12 y13 y14 y15 y16) (spec_l2Scope.l1 (k+1) y0 y1 y2 y3 y4 y5 y6 y7 y8 y9 y10 y11 y12 y13 y14 y15 y16))∧(∀y0 y1 y2 y3 y4 y5 y6 y7 y8 y9 y10 y11 y12 y13 y14 y15 y16 y17 y18 y19 y20 y21 y22 y23,LeO (spec_l2Scope.j2 k y0 y1 y2 y3 y4 y5 y6 y7 y8 y9 y10 y11 y12 y13 y14 y15 y16 y17 y18 y19 y20 y21 y22 y23) (spec_l2Scope.j2 (k+1) y0 y1 y2 y3 y4 y5 y6 y7 y8 y9 y10 y11 y12 y13 y14 y15 y16 y17 y18 y19 y20 y21 y22 y23))∧(∀y0 y1 y2 y3 y4 y5 y6 y7 y8,LeO (spec_l2Scope.l2 k y0 y1 y2 y3 y4 y5 y6 y7 y8) (spec_l2Scope.l2 (k+1) y0 y1 y2 y3 y4 y5 y6 y7 y8))∧(∀y0 y1 y2 y3 y4 y5 y6 y7 y8 y9 y10 y11 y12 y13 y14,LeO (spec_l2Scope.l3 k y0 y1 y2 y3 y4 y5 y6 y7 y8 y9 y10 y11 y12 y13 y14) (spec_l2Scope.l3 (k+1) y0 y1 y2 y3 y4 y5 y6 y7 y8 y9 y10 y11 y12 y13 y14))
 | 0=>⟨fun _ _ _ _ _ _ _ _ _ r h=>by simp [spec_l2Scope.l0] at h,fun _ _ _ _ _ _ _ _ _ _ _ _ _ _ _ _ _ r h=>by simp [spec_l2Scope.l1] at h,fun _ _ _ _ _ _ _ _ _ _ _ _ _ _ _ _ _ _ _ _ _ _ _ _ r h=>by simp [spec_l2Scope.j2] at h,fun _ _ _ _ _ _ _ _ _ r h=>by simp [spec_l2Scope.l2] at h,fun _ _ _ _ _ _ _ _ _ _ _ _ _ _ _ r h=>by simp [spec_l2Scope.l3] at h⟩
 | k+1=>by
  obtain ⟨ih0,ih1,ih2,ih3,ih4⟩:=spec_l2Scope.mono_l k;refine ⟨?_,?_,?_,?_,?_⟩
  ·intro y0 y1 y2 y3 y4 y5 y6 y7 y8;unfold spec_l2Scope.l0
   repeat' with_reducible first|apply ih0|apply ih1|apply ih2|apply ih3|apply ih4|apply spec_l2First.mono|apply spec_l2Is.mono|apply LeO.refl|apply LeO.none|refine LeO.ite ?_ ?_|refine LeO.bind ?_ (fun _=>?_)
  ·intro y0 y1 y2 y3 y4 y5 y6 y7 y8 y9 y10 y11 y12 y13 y14 y15 y16;unfold spec_l2Scope.l1
   repeat' with_reducible first|apply ih0|apply ih1|apply ih2|apply ih3|apply ih4|apply spec_l2First.mono|apply spec_l2Is.mono|apply LeO.refl|apply LeO.none|refine LeO.ite ?_ ?_|refine LeO.bind ?_ (fun _=>?_)
  ·intro y0 y1 y2 y3 y4 y5 y6 y7 y8 y9 y10 y11 y12 y13 y14 y15 y16 y17 y18 y19 y20 y21 y22 y23;unfold spec_l2Scope.j2
   repeat' with_reducible first|apply ih0|apply ih1|apply ih2|apply ih3|apply ih4|apply spec_l2First.mono|apply spec_l2Is.mono|apply LeO.refl|apply LeO.none|refine LeO.ite ?_ ?_|refine LeO.bind ?_ (fun _=>?_)
  ·intro y0 y1 y2 y3 y4 y5 y6 y7 y8;unfold spec_l2Scope.l2
   repeat' with_reducible first|apply ih0|apply ih1|apply ih2|apply ih3|apply ih4|apply spec_l2First.mono|apply spec_l2Is.mono|apply LeO.refl|apply LeO.none|refine LeO.ite ?_ ?_|refine LeO.bind ?_ (fun _=>?_)
  ·intro y0 y1 y2 y3 y4 y5 y6 y7 y8 y9 y10 y11 y12 y13 y14;unfold spec_l2Scope.l3
   repeat' with_reducible first|apply ih0|apply ih1|apply ih2|apply ih3|apply ih4|apply spec_l2First.mono|apply spec_l2Is.mono|apply LeO.refl|apply LeO.none|refine LeO.ite ?_ ?_|refine LeO.bind ?_ (fun _=>?_)
theorem spec_l2Scope.mono:∀a0 a1 a2 a3 a4 k,LeO (spec_l2Scope.f k a0 a1 a2 a3 a4) (spec_l2Scope.f (k+1) a0 a1 a2 a3 a4):=by
 intro a0 a1 a2 a3 a4 k;obtain ⟨ih0,ih1,ih2,ih3,ih4⟩:=spec_l2Scope.mono_l k;unfold spec_l2Scope.f
 repeat' with_reducible first|apply ih0|apply ih1|apply ih2|apply ih3|apply ih4|apply spec_l2First.mono|apply spec_l2Is.mono|apply LeO.refl|apply LeO.none|refine LeO.ite ?_ ?_|refine LeO.bind ?_ (fun _=>?_)
theorem ub62_1 {p:Prop} (h:p:=by
 exact ⟨(wrap64 (x11_3+1)),mq_,H',⟨by have:=HK1.out;have:=HK2.out;have:=HK3.out;omega⟩,⟨(Kd.R_mono (mf_ HO_3 BK191) (fun _ hk=>trivial))⟩,⟨mc_ BK173⟩,⟨mc_ BK186⟩,⟨mb_ HB⟩⟩):p:=h
theorem ub62_0 {p:Prop} (h:p:=by
 exact ⟨_,(false),mq_,H',⟨by have:=HK1.out;have:=HK2.out;first|omega|exact Nat.le_refl _⟩,⟨(Kd.R_mono (mf_ HO_3 BK180) (fun _ hk=>hk.1))⟩,⟨(Kd.R_mono (mf_ HO_6 BK180) (fun _ hk=>hk.1))⟩,⟨mc_ BK173⟩,⟨mc_ BK175⟩,⟨mp_ BK180⟩,⟨mb_ HB⟩⟩):p:=h
set_option maxHeartbeats 8000000 in
set_option maxRecDepth 100000 in
theorem spec_l2Scope.calls (k:Nat) (a0_0:ByteArray) (a0_1:Int) (A0_2:Option Addr) (c0_2:Nat) (l0_2:List (S42)) (A0_3:Option Addr) (c0_3:Nat) (l0_3:List (S161)) (A0_4:Option Addr) (c0_4:Nat) (l0_4:List (S98)) (r:Int) (w:World) (hr0_2:Kd.C k42 w A0_2 l0_2.length l0_2) (hc0_2:l0_2.length≤c0_2) (hr0_3:Kd.C k161 w A0_3 l0_3.length l0_3) (hc0_3:l0_3.length≤c0_3) (hr0_4:Kd.C k98 w A0_4 l0_4.length l0_4) (hc0_4:l0_4.length≤c0_4) (h:spec_l2Scope.f k a0_0 a0_1 l0_2 l0_3 l0_4=some r):
  Calls Tryz.prog 130 #[.agg #[.string a0_0,.int .i64 a0_1,.slice A0_2 l0_2.length c0_2,.slice A0_3 l0_3.length c0_3,.slice A0_4 l0_4.length c0_4]] w fun e w'=>e=.returned (.int .i64 r)∧Below w.heap.size w w':=by
 have hu39:=Tryz.underlying39;have hu42:=Tryz.underlying42;have hu86:=Tryz.underlying86;have hu98:=Tryz.underlying98;have hu161:=Tryz.underlying161;have HR0_2:=a_ hr0_2;have HC0_2:=a_ hc0_2;clear hr0_2 hc0_2;have HR0_3:=a_ hr0_3;have HC0_3:=a_ hc0_3;clear hr0_3 hc0_3;have HR0_4:=a_ hr0_4;have HC0_4:=a_ hc0_4;clear hr0_4 hc0_4;have HB:=a_ (Below.refl w.heap.size w);have H:(spec_l2Scope.l0 k ([]:List ByteArray) l0_2 (l0_2.length:Int) 0 a0_0 a0_1 l0_2 l0_3 l0_4)=some r:=h
 clear h;have H':=a_ H;clear H;go_enter Tryz.func130,Tryz.ntmps130;iterate 3 (go_wp2_with (first|((with_reducible refine gate_dst (N:=1) rfl ?_);refine bh_ 1 #[.string a0_0,.int .i64 a0_1,.slice A0_2 l0_2.length c0_2,.slice A0_3 l0_3.length c0_3,.slice A0_4 l0_4.length c0_4] 39 HB ?_;intro gb173 hg w2 BK173 GE173 hb;replace HB:=ms_ HB hb;clear hb hg;replace hz173:=cz5 BK173));try go_quiet (fail))
 go_loopg [3,16] k (fun kq v3 v16 w'=>∃(x3_1:List ByteArray) (x16_1:Int),v16=.int .i64 x16_1∧Aside0 (spec_l2Scope.l0 kq x3_1 l0_2 (l0_2.length:Int) x16_1 a0_0 a0_1 l0_2 l0_3 l0_4=some r)∧Aside0 (kq≤k)∧Aside0 (Kd.R Kd.string 9 w' w.heap.size (fun _=>True) v3 x3_1)∧Aside0 (w'.heap[gb173]?=some (.cells #[.string a0_0,.int .i64 a0_1,(.slice A0_2 l0_2.length c0_2),(.slice A0_3 l0_3.length c0_3),(.slice A0_4 l0_4.length c0_4)] 39 (0,0)))∧Aside0 (Below w.heap.size w w'))
 case atStart=>exact ⟨(([]:List ByteArray)),(0),mq_,H',⟨Nat.le_refl _⟩,⟨by first|exact Kd.R_nil _ _ _ _ _|exact Kd.N_nil _ _ _ _ _|exact Kd.V_nil _ _ _ _ _|exact Kd.Q_nil _ _ _ _ _|exact Kd.S_nil _ _ _ _ _⟩,⟨mc_ BK173⟩,⟨mb_ HB⟩⟩
 clear H';(try clear hz173);obtain ⟨x3_1,x16_1,rfl,HA,HK1,HO_3,BK173,HB⟩:=hrel;obtain _|k1:=gk
 ·exact absurd HA.out (by simp [spec_l2Scope.l0])
 have H:=HA.out;clear HA;simp only [spec_l2Scope.l0] at H;by_cases c4:x16_1<(l0_2.length:Int)
 ·rw [if_pos c4] at H;have c4b0:=ct_ c4;clear c4;by_cases c5:0≤x16_1
  case neg=>
   rw [if_neg c5] at H;cases H
  rw [if_pos c5] at H;have c5b0:=ct_ c5;clear c5;by_cases c6:x16_1<(l0_2.length:Int)
  case neg=>
   rw [if_neg c6] at H;cases H
  rw [if_pos c6] at H;have c6b0:=ct_ c6;clear c6;by_cases c7:([]:List ByteArray).length+x3_1.length<8796093022208
  case neg=>
   rw [if_neg c7] at H;cases H
  rw [if_pos c7] at H;have LMc7:=a_ c7;clear c7;obtain ⟨y176,hy176⟩:∃y_:List ByteArray,y_=(([]:List ByteArray)++x3_1):=⟨_,rfl⟩;rw [←hy176] at H;(try rw [Option.bind_some] at H);have Ny176:=a_ hy176;clear hy176;have H':=a_ H;clear H;have p174:0≤(x16_1:Int):=md_
  have q174:x16_1<(l0_2.length:Int):=md_
  obtain ⟨ad174,A174_2,c174_2,e174,hx174_0,hx174_1,hx174_2,hl174_2,hi174_2⟩:=at_T42 HR0_2.out x16_1 p174 q174;cases e174;replace hx174_0:=mx_ HB hx174_0;replace hx174_1:=mx_ HB hx174_1;replace hx174_2:=mx_ HB hx174_2;have HR174_2:=a_ hi174_2;have HC174_2:=a_ hl174_2;clear hi174_2 hl174_2;replace p174:=eq_true p174;replace q174:=eq_true q174;iterate 3 (go_wp2_with (first|((with_reducible refine gate_dst (N:=5) rfl ?_);refine bh_ 5 #[.bool false,.string (⟨#[]⟩:ByteArray),.slice none 0 0] 42 HB ?_;intro gb175 hg w8 BK175 GE175 hb;obtain ⟨NB173_175,NB175_173⟩:=mn_ BK173 hg;replace HO_3:=ro_ HO_3 hb;replace BK173:=mk_ BK173 hb;replace HB:=ms_ HB hb;clear hb hg;have nNB175_173:=NB175_173.out;have nNB173_175:=NB173_175.out;replace hz175:=cz3 BK175;obtain ⟨Ao12,co12,eo12⟩:=Kd.R_slice HO_3.out;subst eo12)|((with_reducible refine gate_builtin (b:=.append) (xs:=#[.tmp 21,.tmp 22]) rfl ?_);at_builtin;refine Kd.R_append_rows Kd.string (w0:=w) w.heap.size rfl (.tmp 21) (.tmp 22) 147 9 (.string ⟨#[]⟩) 16 rfl Tryz.underlying147 info9 rfl (by decide) (by omega) (.slice none 0 0) ([]:List ByteArray) x3_1 _ _ _ (fun k_=>some k_≠(.slice Ao12 x3_1.length co12:Value).ownBlock) (fun _=>False) rfl rfl ?aO ?aR (fun _ _ h=>h) (fun _ h=>h.elim) ?aF ?aB ?aS ?aL ?_;(case aR=>refine (Kd.R_reads' (e:=9) (base:=w.heap.size) (ok:=fun k_=>True) (n:=x3_1.length) (c:=co12) ?_).2.2;exact ((Kd.R_mono (mf_ HO_3 BK175) (fun _ h_=>h_.1))));(case aB=>exact (mb_ HB));(case aF=>exact (fun k_ hk=>Kd.fresh' (Kd.R_lt ((Kd.R_mono (mf_ HO_3 BK175) (fun _ h_=>h_.1)))) k_ hk));(case aO=>exact ((Kd.R_nil _ _ _ _ (fun k_=>some k_≠(.slice Ao12 x3_1.length co12:Value).ownBlock))));(case aS=>exact (below_size (mb_ HB)));(case aL=>have:=LMc7.out;omega);intro v177 w11 ho hb hg hat;rw [←Ny176.out] at ho;have HO178:=a_ (ho);replace HO_3:=a_ (Kd.R_after (Kd.R_apart_nil ((Kd.R_mono (mf_ HO_3 BK175) (fun _ h_=>h_.1)))) hg hat);replace BK173:=a_ (blk_grown (mc_ BK173) hg (by simp [Value.ownBlock]));replace BK175:=a_ (blk_grown (g:=gb175) (o:=.cells #[.bool ((rd_T42 l0_2 x16_1).f0),.string ((rd_T42 l0_2 x16_1).f1),.slice A174_2 ((rd_T42 l0_2 x16_1).f2).length c174_2] 42 (0,0)) (mp_ BK175) hg (by simp [Value.ownBlock]));replace HB:=a_ (hb);clear ho hb hg hat;replace hz175:=cz3 BK175));try go_quiet (fail))
  go_loopg [6,27] k1 (fun kq v6 v27 w'=>∃(x6_2:List ByteArray) (x27_2:Int),v27=.int .i64 x27_2∧Aside0 (spec_l2Scope.l1 kq x3_1 x16_1 x6_2 l0_2 (l0_2.length:Int) x16_1 ((rd_T42 l0_2 x16_1).f2) (((rd_T42 l0_2 x16_1).f2).length:Int) x27_2 a0_0 a0_1 l0_2 l0_3 l0_4 ((rd_T42 l0_2 x16_1).f0) ((rd_T42 l0_2 x16_1).f1) ((rd_T42 l0_2 x16_1).f2)=some r)∧Aside0 (kq≤k1)∧Aside0 (Kd.R Kd.string 9 w' w.heap.size (fun k_=>some k_≠(v6:Value).ownBlock) (.slice Ao12 x3_1.length co12) x3_1)∧Aside0 (Kd.R Kd.string 9 w' w.heap.size (fun k_=>some k_≠((.slice Ao12 x3_1.length co12):Value).ownBlock) v6 x6_2)∧Aside0 (w'.heap[gb173]?=some (.cells #[.string a0_0,.int .i64 a0_1,(.slice (some ad174) l0_2.length c0_2),(.slice A0_3 l0_3.length c0_3),(.slice A0_4 l0_4.length c0_4)] 39 (0,0)))∧Aside0 (w'.heap[gb175]?=some (.cells #[.bool ((rd_T42 l0_2 x16_1).f0),.string ((rd_T42 l0_2 x16_1).f1),(.slice A174_2 ((rd_T42 l0_2 x16_1).f2).length c174_2)] 42 (0,0)))∧Aside0 (Below w.heap.size w w'))
  case atStart=>exact ⟨(y176),(0),mq_,H',⟨Nat.le_refl _⟩,⟨mo_ (Kd.R_mono HO_3.out (fun _ hk=>hk.2))⟩,⟨mo_ HO178.out⟩,⟨mc_ BK173⟩,⟨mc_ BK175⟩,⟨mb_ HB⟩⟩
  clear H';(try clear c4b0);(try clear c5b0);(try clear c6b0);(try clear hx174_0);(try clear hx174_1);(try clear hx174_2);(try clear p174);(try clear q174);obtain ⟨x6_2,x27_2,rfl,HA,HK2,HO_3,HO_6,BK173,BK175,HB⟩:=hrel;obtain _|k2:=gk
  ·exact absurd HA.out (by simp [spec_l2Scope.l1])
  have H:=HA.out;clear HA;simp only [spec_l2Scope.l1] at H;by_cases c14:x27_2<(((rd_T42 l0_2 x16_1).f2).length:Int)
  ·rw [if_pos c14] at H;have c14b0:=ct_ c14;clear c14;by_cases c15:0≤x27_2
   case neg=>
    rw [if_neg c15] at H;cases H
   rw [if_pos c15] at H;have c15b0:=ct_ c15;clear c15;by_cases c16:x27_2<(((rd_T42 l0_2 x16_1).f2).length:Int)
   case neg=>
    rw [if_neg c16] at H;cases H
   rw [if_pos c16] at H;have c16b0:=ct_ c16;clear c16;have HC17:=a_ H;clear H;have p179:0≤(x27_2:Int):=md_
   have q179:x27_2<(((rd_T42 l0_2 x16_1).f2).length:Int):=md_
   obtain ⟨ad179,e179,hx179_0,hx179_1,hx179_2,hx179_3,hx179_4,hx179_5⟩:=at_T86 HR174_2.out x27_2 p179 q179;cases e179;replace hx179_0:=mx_ HB hx179_0;replace hx179_1:=mx_ HB hx179_1;replace hx179_2:=mx_ HB hx179_2;replace hx179_3:=mx_ HB hx179_3;replace hx179_4:=mx_ HB hx179_4;replace hx179_5:=mx_ HB hx179_5;replace p179:=eq_true p179;replace q179:=eq_true q179;go_upto_region 10 with (first|((with_reducible refine gate_dst (N:=8) rfl ?_);refine bh_ 8 #[.int .i64 0,.int .i64 0,.string (⟨#[]⟩:ByteArray),.int .i64 0,.int .i64 0,.string (⟨#[]⟩:ByteArray)] 86 HB ?_;intro gb180 hg w18 BK180 GE180 hb;obtain ⟨NB173_180,NB180_173⟩:=mn_ BK173 hg;obtain ⟨NB175_180,NB180_175⟩:=mn_ BK175 hg;replace HO_3:=ro_ HO_3 hb;replace HO_6:=ro_ HO_6 hb;replace BK173:=mk_ BK173 hb;replace BK175:=mk_ BK175 hb;replace HB:=ms_ HB hb;clear hb hg;have nNB180_173:=NB180_173.out;have nNB173_180:=NB173_180.out;have nNB180_175:=NB180_175.out;have nNB175_180:=NB175_180.out;replace hz180:=cz6 BK180));repeat (go_quiet (first|((with_reducible refine gate_dst (N:=8) rfl ?_);refine bh_ 8 #[.int .i64 0,.int .i64 0,.string (⟨#[]⟩:ByteArray),.int .i64 0,.int .i64 0,.string (⟨#[]⟩:ByteArray)] 86 HB ?_;intro gb180 hg w18 BK180 GE180 hb;obtain ⟨NB173_180,NB180_173⟩:=mn_ BK173 hg;obtain ⟨NB175_180,NB180_175⟩:=mn_ BK175 hg;replace HO_3:=ro_ HO_3 hb;replace HO_6:=ro_ HO_6 hb;replace BK173:=mk_ BK173 hb;replace BK175:=mk_ BK175 hb;replace HB:=ms_ HB hb;clear hb hg;have nNB180_173:=NB180_173.out;have nNB173_180:=NB173_180.out;have nNB180_175:=NB180_175.out;have nNB175_180:=NB175_180.out;replace hz180:=cz6 BK180));go_upto_region 10 with (first|((with_reducible refine gate_dst (N:=8) rfl ?_);refine bh_ 8 #[.int .i64 0,.int .i64 0,.string (⟨#[]⟩:ByteArray),.int .i64 0,.int .i64 0,.string (⟨#[]⟩:ByteArray)] 86 HB ?_;intro gb180 hg w18 BK180 GE180 hb;obtain ⟨NB173_180,NB180_173⟩:=mn_ BK173 hg;obtain ⟨NB175_180,NB180_175⟩:=mn_ BK175 hg;replace HO_3:=ro_ HO_3 hb;replace HO_6:=ro_ HO_6 hb;replace BK173:=mk_ BK173 hb;replace BK175:=mk_ BK175 hb;replace HB:=ms_ HB hb;clear hb hg;have nNB180_173:=NB180_173.out;have nNB173_180:=NB173_180.out;have nNB180_175:=NB180_175.out;have nNB175_180:=NB175_180.out;replace hz180:=cz6 BK180)))
   (try simp only [Act.put,List.setIfInBounds_toArray,List.set_cons_zero,List.set_cons_succ]);go_cut [45] (fun v45 wc=>∃(kq:Nat) (x45_16:Bool),v45=.bool x45_16∧Aside0 (spec_l2Scope.j2 kq x3_1 x16_1 x6_2 l0_2 (l0_2.length:Int) x16_1 ((rd_T42 l0_2 x16_1).f2) (((rd_T42 l0_2 x16_1).f2).length:Int) x27_2 x45_16 a0_0 a0_1 l0_2 l0_3 l0_4 ((rd_T42 l0_2 x16_1).f0) ((rd_T42 l0_2 x16_1).f1) ((rd_T42 l0_2 x16_1).f2) ((rd_T86 ((rd_T42 l0_2 x16_1).f2) x27_2).f0) ((rd_T86 ((rd_T42 l0_2 x16_1).f2) x27_2).f1) ((rd_T86 ((rd_T42 l0_2 x16_1).f2) x27_2).f2) ((rd_T86 ((rd_T42 l0_2 x16_1).f2) x27_2).f3.f0) ((rd_T86 ((rd_T42 l0_2 x16_1).f2) x27_2).f3.f1) ((rd_T86 ((rd_T42 l0_2 x16_1).f2) x27_2).f3.f2)=some r)∧Aside0 (kq≤k2)∧Aside0 (Kd.R Kd.string 9 wc w.heap.size (fun k_=>some k_≠(u6:Value).ownBlock) (.slice Ao12 x3_1.length co12) x3_1)∧Aside0 (Kd.R Kd.string 9 wc w.heap.size (fun k_=>some k_≠((.slice Ao12 x3_1.length co12):Value).ownBlock) u6 x6_2)∧Aside0 (wc.heap[gb173]?=some (.cells #[.string a0_0,.int .i64 a0_1,(.slice (some ad174) l0_2.length c0_2),(.slice A0_3 l0_3.length c0_3),(.slice A0_4 l0_4.length c0_4)] 39 (0,0)))∧Aside0 (wc.heap[gb175]?=some (.cells #[.bool ((rd_T42 l0_2 x16_1).f0),.string ((rd_T42 l0_2 x16_1).f1),(.slice (some ad179) ((rd_T42 l0_2 x16_1).f2).length c174_2)] 42 (0,0)))∧Aside0 (wc.heap[gb180]?=some (.cells #[.int .i64 ((rd_T86 ((rd_T42 l0_2 x16_1).f2) x27_2).f0),.int .i64 ((rd_T86 ((rd_T42 l0_2 x16_1).f2) x27_2).f1),.string ((rd_T86 ((rd_T42 l0_2 x16_1).f2) x27_2).f2),.int .i64 ((rd_T86 ((rd_T42 l0_2 x16_1).f2) x27_2).f3.f0),.int .i64 ((rd_T86 ((rd_T42 l0_2 x16_1).f2) x27_2).f3.f1),.string ((rd_T86 ((rd_T42 l0_2 x16_1).f2) x27_2).f3.f2)] 86 (0,0)))∧Aside0 (Below w.heap.size w wc))
   case first=>
    have H:=HC17.out;clear HC17;by_cases c22:((rd_T86 ((rd_T42 l0_2 x16_1).f2) x27_2).f0)=3
    ·rw [if_pos c22] at H;obtain ⟨c22b0,c22b1⟩:=bq_ c22;clear c22;(first|rw [c22b0]|(simp only [i64_w,i32_w];rw [c22b0])|skip);by_cases c23:((rd_T86 ((rd_T42 l0_2 x16_1).f2) x27_2).f2).toList=([]:List UInt8)
     ·rw [if_pos c23] at H;obtain ⟨c23b0,c23b1⟩:=bq_ c23;clear c23;have H':=a_ H;clear H;have nNB180_173:=NB180_173.out;have nNB173_180:=NB173_180.out;have nNB180_175:=NB180_175.out;have nNB175_180:=NB175_180.out;replace hz180:=cz6 BK180;go_wp2;repeat (go_quiet (fail);try go_wp2)
      go_meet
      case rel=>exact ub62_0
     ·rw [if_neg c23] at H;obtain ⟨c23b0,c23b1⟩:=bn_ c23;obtain ⟨t181,A27,H⟩:=ob_ H;have H':=a_ H;clear H;have nNB180_173:=NB180_173.out;have nNB173_180:=NB173_180.out;have nNB180_175:=NB180_175.out;have nNB175_180:=NB175_180.out;replace hz180:=cz6 BK180;obtain ⟨Ao31,co31,eo31⟩:=Kd.R_slice HO_6.out;subst eo31;go_wp2_with (first|(go_at_call 161;(with_reducible refine (spec_l2Is.calls k2 ((rd_T86 ((rd_T42 l0_2 x16_1).f2) x27_2).f2) _ _ x6_2 t181 _ ?side1 ?side2 A27.out).mono ?_);(case side1=>refine (Kd.R_reads' (e:=9) (base:=w.heap.size) (ok:=fun k_=>some k_≠(.slice Ao12 x3_1.length co12:Value).ownBlock) (n:=x6_2.length) (c:=co31) ?_).2.2;exact ((Kd.R_mono (mf_ HO_6 BK180) (fun _ h_=>h_.1))));(case side2=>exact (Kd.R_reads' HO_6.out).2.1);rintro e w' ⟨rfl,⟨nd,rfl⟩⟩;(try first|exact ⟨rfl,_,World.drewN_drewN _ _ _⟩|exact ⟨rfl,_,Eq.trans (World.drewN_drewN _ _ _) (congrArg (World.drewN _) (Nat.add_assoc _ _ _))⟩)));repeat (go_quiet (first|(go_at_call 161;(with_reducible refine (spec_l2Is.calls k2 ((rd_T86 ((rd_T42 l0_2 x16_1).f2) x27_2).f2) _ _ x6_2 t181 _ ?side1 ?side2 A27.out).mono ?_);(case side1=>refine (Kd.R_reads' (e:=9) (base:=w.heap.size) (ok:=fun k_=>some k_≠(.slice Ao12 x3_1.length co12:Value).ownBlock) (n:=x6_2.length) (c:=co31) ?_).2.2;exact ((Kd.R_mono (mf_ HO_6 BK180) (fun _ h_=>h_.1))));(case side2=>exact (Kd.R_reads' HO_6.out).2.1);rintro e w' ⟨rfl,⟨nd,rfl⟩⟩;(try first|exact ⟨rfl,_,World.drewN_drewN _ _ _⟩|exact ⟨rfl,_,Eq.trans (World.drewN_drewN _ _ _) (congrArg (World.drewN _) (Nat.add_assoc _ _ _))⟩)));try go_wp2_with (first|(go_at_call 161;(with_reducible refine (spec_l2Is.calls k2 ((rd_T86 ((rd_T42 l0_2 x16_1).f2) x27_2).f2) _ _ x6_2 t181 _ ?side1 ?side2 A27.out).mono ?_);(case side1=>refine (Kd.R_reads' (e:=9) (base:=w.heap.size) (ok:=fun k_=>some k_≠(.slice Ao12 x3_1.length co12:Value).ownBlock) (n:=x6_2.length) (c:=co31) ?_).2.2;exact ((Kd.R_mono (mf_ HO_6 BK180) (fun _ h_=>h_.1))));(case side2=>exact (Kd.R_reads' HO_6.out).2.1);rintro e w' ⟨rfl,⟨nd,rfl⟩⟩;(try first|exact ⟨rfl,_,World.drewN_drewN _ _ _⟩|exact ⟨rfl,_,Eq.trans (World.drewN_drewN _ _ _) (congrArg (World.drewN _) (Nat.add_assoc _ _ _))⟩))))
      go_meet
      case rel=>exact ⟨_,(!t181),mq_,H',⟨by have:=HK1.out;have:=HK2.out;first|omega|exact Nat.le_refl _⟩,⟨(Kd.R_mono (mf_ HO_3 BK180) (fun _ hk=>hk.1))⟩,⟨(Kd.R_mono (mf_ HO_6 BK180) (fun _ hk=>hk.1))⟩,⟨mc_ BK173⟩,⟨mc_ BK175⟩,⟨mp_ BK180⟩,⟨mb_ HB⟩⟩
    ·rw [if_neg c22] at H;obtain ⟨c22b0,c22b1⟩:=bn_ c22;(first|rw [c22b0]|(simp only [i64_w,i32_w];rw [c22b0])|skip);have H':=a_ H;clear H;have nNB180_173:=NB180_173.out;have nNB173_180:=NB173_180.out;have nNB180_175:=NB180_175.out;have nNB175_180:=NB175_180.out;replace hz180:=cz6 BK180;go_wp2;repeat (go_quiet (fail);try go_wp2)
     go_meet
     case rel=>exact ub62_0
   clear HC17;(try clear c14b0);(try clear c15b0);(try clear c16b0);(try clear hx179_0);(try clear hx179_1);(try clear hx179_2);(try clear hx179_3);(try clear hx179_4);(try clear hx179_5);(try clear p179);(try clear q179);obtain ⟨kq,x45_16,rfl,HA,HJ16,HO_3,HO_6,BK173,BK175,BK180,HB⟩:=hcut;obtain _|kj16:=kq
   ·exact absurd HA.out (by simp [spec_l2Scope.j2])
   have H:=HA.out;clear HA;simp only [spec_l2Scope.j2] at H;by_cases c35:x45_16=true
   ·subst c35;rw [if_pos rfl] at H;obtain rfl:=oi_ H;go_wp2;repeat (go_quiet (fail);try go_wp2)
    go_ret;exact ⟨me_,mb_ HB⟩
   ·replace c35:=Bool.eq_false_iff.mpr c35;subst c35;rw [if_neg (show ¬(false=true) by decide)] at H;by_cases c36:((rd_T86 ((rd_T42 l0_2 x16_1).f2) x27_2).f0)=2
    ·rw [if_pos c36] at H;obtain ⟨c36b0,c36b1⟩:=bq_ c36;clear c36;by_cases c37:x6_2.length<8796093022208
     case neg=>
      rw [if_neg c37] at H;cases H
     rw [if_pos c37] at H;have LMc37:=a_ c37;clear c37;obtain ⟨y182,hy182⟩:∃y_:List ByteArray,y_=(x6_2++[((rd_T86 ((rd_T42 l0_2 x16_1).f2) x27_2).f2)]):=⟨_,rfl⟩;rw [←hy182] at H;(try rw [Option.bind_some] at H);have Ny182:=a_ hy182;clear hy182;have H':=a_ H;clear H;have nNB180_173:=NB180_173.out;have nNB173_180:=NB173_180.out;have nNB180_175:=NB180_175.out;have nNB175_180:=NB175_180.out;replace hz180:=cz6 BK180;iterate 3 (go_wp2_with (first|((with_reducible refine gate_builtin (b:=.append) (xs:=#[.tmp 51,.tmp 54]) rfl ?_);at_builtin;refine Kd.R_append Kd.string (w0:=w) w.heap.size rfl (.tmp 51) (.tmp 54) 147 9 (.string ⟨#[]⟩) 16 rfl Tryz.underlying147 info9 rfl (by decide) (by omega) u6 x6_2 ((rd_T86 ((rd_T42 l0_2 x16_1).f2) x27_2).f2) [.string ((rd_T86 ((rd_T42 l0_2 x16_1).f2) x27_2).f2)] (fun k_=>some k_≠(.slice Ao12 x3_1.length co12:Value).ownBlock) (fun _=>False) rfl rfl ?aP (fun _ hk=>hk.elim) ?aF ?aO ?aB ?aS ?aL ?_;(case aP=>exact rfl);(case aB=>exact (mb_ HB));(case aF=>exact (fun k_ hk=>Kd.fresh' (Kd.R_lt (mo_ HO_3.out)) k_ hk));(case aO=>exact (mo_ HO_6.out));(case aS=>exact (below_size (mb_ HB)));(case aL=>have:=LMc37.out;omega);intro v183 w41 ho hb hg hat;rw [←Ny182.out] at ho;have HO184:=a_ (ho);replace HO_3:=a_ (Kd.R_after (ok:=(fun _=>True)) (mo_ (Kd.R_mono HO_3.out (fun _ hk=>⟨trivial,hk⟩))) hg hat);replace BK173:=a_ (blk_grown (mc_ BK173) hg (Kd.R_ne HO_6.out BK173.out (by decide)));replace BK175:=a_ (blk_grown (mc_ BK175) hg (Kd.R_ne HO_6.out BK175.out (by decide)));replace BK180:=a_ (blk_grown (mc_ BK180) hg (Kd.R_ne HO_6.out BK180.out (by decide)));replace HB:=a_ (hb);clear HO_6;clear ho hb hg hat));try go_quiet (fail))
     go_roundg kj16
     case measure=>
      have:=HK1.out
      have:=HK2.out
      have:=HJ16.out
      omega
     case rel=>exact ⟨(y182),(wrap64 (x27_2+1)),mq_,H',⟨by have:=HK1.out;have:=HK2.out;have:=HJ16.out;omega⟩,⟨mo_ (Kd.R_mono HO_3.out (fun _ hk=>hk.2))⟩,⟨mo_ HO184.out⟩,⟨mc_ BK173⟩,⟨mc_ BK175⟩,⟨mb_ HB⟩⟩
    ·rw [if_neg c36] at H;obtain ⟨c36b0,c36b1⟩:=bn_ c36;have H':=a_ H;clear H;have nNB180_173:=NB180_173.out;have nNB173_180:=NB173_180.out;have nNB180_175:=NB180_175.out;have nNB175_180:=NB175_180.out;replace hz180:=cz6 BK180;go_wp2;repeat (go_quiet (fail);try go_wp2)
     go_roundg kj16
     case measure=>
      have:=HK1.out
      have:=HK2.out
      have:=HJ16.out
      omega
     case rel=>exact ⟨(x6_2),(wrap64 (x27_2+1)),mq_,H',⟨by have:=HK1.out;have:=HK2.out;have:=HJ16.out;omega⟩,⟨mo_ HO_3.out⟩,⟨mo_ HO_6.out⟩,⟨mc_ BK173⟩,⟨mc_ BK175⟩,⟨mb_ HB⟩⟩
  ·rw [if_neg c14] at H;have c14b0:=cf_ c14;clear c14;by_cases c45:((rd_T42 l0_2 x16_1).f0)=true
   ·rw [if_pos c45] at H;have c45b0:((rd_T42 l0_2 x16_1).f0)=true:=c45
    clear c45;have H':=a_ H;clear H;have nNB175_173:=NB175_173.out;have nNB173_175:=NB173_175.out;replace hz175:=cz3 BK175;go_wp2;repeat (go_quiet (fail);try go_wp2)
    go_roundg k2
    case measure=>
     have:=HK1.out
     have:=HK2.out
     omega
    case rel=>exact ⟨(x3_1),(wrap64 (x16_1+1)),mq_,H',⟨by have:=HK1.out;have:=HK2.out;omega⟩,⟨mo_ (Kd.R_mono HO_3.out (fun _ hk=>trivial))⟩,⟨mc_ BK173⟩,⟨mb_ HB⟩⟩
   ·rw [if_neg c45] at H;have c45b0:((rd_T42 l0_2 x16_1).f0)=false:=by simpa using c45
    clear c45;have H':=a_ H;clear H;have nNB175_173:=NB175_173.out;have nNB173_175:=NB173_175.out;replace hz175:=cz3 BK175;go_wp2;repeat (go_quiet (fail);try go_wp2)
    go_roundg k2
    case measure=>
     have:=HK1.out
     have:=HK2.out
     omega
    case rel=>exact ⟨(x6_2),(wrap64 (x16_1+1)),mq_,H',⟨by have:=HK1.out;have:=HK2.out;omega⟩,⟨mo_ (Kd.R_mono HO_6.out (fun _ hk=>trivial))⟩,⟨mc_ BK173⟩,⟨mb_ HB⟩⟩
 ·rw [if_neg c4] at H;have c4b0:=cf_ c4;clear c4;have H':=a_ H;clear H;replace hz173:=cz5 BK173;go_wp2;repeat (go_quiet (fail);try go_wp2)
  go_loopg [65] k1 (fun kq v65 w'=>∃(x65_2:Int),v65=.int .i64 x65_2∧Aside0 (spec_l2Scope.l2 kq x3_1 l0_4 (l0_4.length:Int) x65_2 a0_0 a0_1 l0_2 l0_3 l0_4=some r)∧Aside0 (kq≤k1)∧Aside0 (Kd.R Kd.string 9 w' w.heap.size (fun _=>True) u3 x3_1)∧Aside0 (w'.heap[gb173]?=some (.cells #[.string a0_0,.int .i64 a0_1,(.slice A0_2 l0_2.length c0_2),(.slice A0_3 l0_3.length c0_3),(.slice A0_4 l0_4.length c0_4)] 39 (0,0)))∧Aside0 (Below w.heap.size w w'))
  case atStart=>exact ⟨(0),mq_,H',⟨Nat.le_refl _⟩,⟨mo_ HO_3.out⟩,⟨mc_ BK173⟩,⟨mb_ HB⟩⟩
  clear H';(try clear c4b0);obtain ⟨x65_2,rfl,HA,HK2,HO_3,BK173,HB⟩:=hrel;obtain _|k2:=gk
  ·exact absurd HA.out (by simp [spec_l2Scope.l2])
  have H:=HA.out;clear HA;simp only [spec_l2Scope.l2] at H;by_cases c51:x65_2<(l0_4.length:Int)
  ·rw [if_pos c51] at H;have c51b0:=ct_ c51;clear c51;by_cases c52:0≤x65_2
   case neg=>
    rw [if_neg c52] at H;cases H
   rw [if_pos c52] at H;have c52b0:=ct_ c52;clear c52;by_cases c53:x65_2<(l0_4.length:Int)
   case neg=>
    rw [if_neg c53] at H;cases H
   rw [if_pos c53] at H;have c53b0:=ct_ c53;clear c53;by_cases c54:(((rd_T98 l0_4 x65_2).f3).length:Int)=0
   ·rw [if_pos c54] at H;obtain ⟨c54b0,c54b1⟩:=bq_ c54;clear c54;have H':=a_ H;clear H;have p185:0≤(x65_2:Int):=md_
    have q185:x65_2<(l0_4.length:Int):=md_
    obtain ⟨ad185,A185_3,c185_3,e185,hx185_0,hx185_1,hx185_2,hx185_3,hl185_3,hi185_3⟩:=at_T98 HR0_4.out x65_2 p185 q185;cases e185;replace hx185_0:=mx_ HB hx185_0;replace hx185_1:=mx_ HB hx185_1;replace hx185_2:=mx_ HB hx185_2;replace hx185_3:=mx_ HB hx185_3;have HR185_3:=a_ hi185_3;have HC185_3:=a_ hl185_3;clear hi185_3 hl185_3;replace p185:=eq_true p185;replace q185:=eq_true q185;iterate 3 (go_wp2_with (first|((with_reducible refine gate_dst (N:=10) rfl ?_);refine bh_ 10 #[.int .i64 0,.int .i64 0,.string (⟨#[]⟩:ByteArray),.slice none 0 0] 98 HB ?_;intro gb186 hg w55 BK186 GE186 hb;have GW186:=mg_ HB hg;obtain ⟨NB173_186,NB186_173⟩:=mn_ BK173 hg;replace HO_3:=ro_ HO_3 hb;replace BK173:=mk_ BK173 hb;replace HB:=ms_ HB hb;clear hb hg;have nNB186_173:=NB186_173.out;have nNB173_186:=NB173_186.out;replace hz186:=cz4 BK186));try go_quiet (fail))
    go_roundg k2
    case measure=>
     have:=HK1.out
     have:=HK2.out
     omega
    case rel=>exact ⟨(wrap64 (x65_2+1)),mq_,H',⟨by have:=HK1.out;have:=HK2.out;omega⟩,⟨(Kd.R_mono (mf_ HO_3 BK186) (fun _ hk=>trivial))⟩,⟨mc_ BK173⟩,⟨mb_ HB⟩⟩
   ·rw [if_neg c54] at H;obtain ⟨c54b0,c54b1⟩:=bn_ c54;have c54b2:¬(((rd_T98 l0_4 x65_2).f3)=[]):=fun h_=>c54 (by rw [h_];rfl)
    by_cases c58:0<(((rd_T98 l0_4 x65_2).f3).length:Int)
    case neg=>
     rw [if_neg c58] at H;cases H
    rw [if_pos c58] at H;have c58b0:=ct_ c58;have c58b1:decide (0<((rd_T98 l0_4 x65_2).f3).length)=true:=decide_eq_true (by omega)
    clear c58;obtain ⟨t188,A59,H⟩:=ob_ H;have H':=a_ H;clear H;have p185:0≤(x65_2:Int):=md_
    have q185:x65_2<(l0_4.length:Int):=md_
    obtain ⟨ad185,A185_3,c185_3,e185,hx185_0,hx185_1,hx185_2,hx185_3,hl185_3,hi185_3⟩:=at_T98 HR0_4.out x65_2 p185 q185;cases e185;replace hx185_0:=mx_ HB hx185_0;replace hx185_1:=mx_ HB hx185_1;replace hx185_2:=mx_ HB hx185_2;replace hx185_3:=mx_ HB hx185_3;have HR185_3:=a_ hi185_3;have HC185_3:=a_ hl185_3;clear hi185_3 hl185_3;replace p185:=eq_true p185;replace q185:=eq_true q185;iterate 3 (go_wp2_with (first|((with_reducible refine gate_dst (N:=10) rfl ?_);refine bh_ 10 #[.int .i64 0,.int .i64 0,.string (⟨#[]⟩:ByteArray),.slice none 0 0] 98 HB ?_;intro gb186 hg w60 BK186 GE186 hb;have GW186:=mg_ HB hg;obtain ⟨NB173_186,NB186_173⟩:=mn_ BK173 hg;replace HO_3:=ro_ HO_3 hb;replace BK173:=mk_ BK173 hb;replace HB:=ms_ HB hb;clear hb hg;have nNB186_173:=NB186_173.out;have nNB173_186:=NB173_186.out;replace hz186:=cz4 BK186;replace hz173:=cz5 BK173;have p187:0≤(0:Int):=(by omega);have q187:0<(((rd_T98 l0_4 x65_2).f3).length:Int):=md_;obtain ⟨ad187,e187,hx187_0⟩:=Kd.at_int HR185_3.out 0 p187 q187;cases e187;have qi187:(0<((rd_T98 l0_4 x65_2).f3).length)=True:=eq_true (by omega);(try rw [show ((0:Int)).toNat=0 from rfl] at hx187_0);(try rw [Addr.add_zero'] at hx187_0);have hn187_0:ad187.block≠gb186:=Nat.ne_of_lt (Nat.lt_of_lt_of_le (by have:=World.block_lt_of_cell? _ _ hx187_0;first|rwa [add_block] at this|exact this) GW186.out);have hn187_1:ad187.block≠gb186:=Nat.ne_of_lt (Nat.lt_of_lt_of_le (by have:=World.block_lt_of_cell? _ _ hx187_0;first|rwa [add_block] at this|exact this) GW186.out);have hn187_2:ad187.block≠gb186:=Nat.ne_of_lt (Nat.lt_of_lt_of_le (by have:=World.block_lt_of_cell? _ _ hx187_0;first|rwa [add_block] at this|exact this) GW186.out);have hn187_3:ad187.block≠gb186:=Nat.ne_of_lt (Nat.lt_of_lt_of_le (by have:=World.block_lt_of_cell? _ _ hx187_0;first|rwa [add_block] at this|exact this) GW186.out);replace hx187_0:=mx_ HB hx187_0;replace hx187_0:=(cell_far (p:=⟨gb186,0,none⟩) (by first|(rw [add_block];exact hn187_0)|(show (Addr.add _ _).block≠_;rw [add_block];exact hn187_0)|exact hn187_0) (.int .i64 ((rd_T98 l0_4 x65_2).f0))).trans hx187_0;replace hx187_0:=(cell_far (p:=⟨gb186,1,none⟩) (by first|(rw [add_block];exact hn187_1)|(show (Addr.add _ _).block≠_;rw [add_block];exact hn187_1)|exact hn187_1) (.int .i64 ((rd_T98 l0_4 x65_2).f1))).trans hx187_0;replace hx187_0:=(cell_far (p:=⟨gb186,2,none⟩) (by first|(rw [add_block];exact hn187_2)|(show (Addr.add _ _).block≠_;rw [add_block];exact hn187_2)|exact hn187_2) (.string ((rd_T98 l0_4 x65_2).f2))).trans hx187_0;replace hx187_0:=(cell_far (p:=⟨gb186,3,none⟩) (by first|(rw [add_block];exact hn187_3)|(show (Addr.add _ _).block≠_;rw [add_block];exact hn187_3)|exact hn187_3) (.slice (some ad187) ((rd_T98 l0_4 x65_2).f3).length c185_3)).trans hx187_0;(try have hy187_0:=fun (n_:Nat)=>(show ((((((w60.drewN n_).setCell ⟨gb186,0,none⟩ (.int .i64 ((rd_T98 l0_4 x65_2).f0))).setCell ⟨gb186,1,none⟩ (.int .i64 ((rd_T98 l0_4 x65_2).f1))).setCell ⟨gb186,2,none⟩ (.string ((rd_T98 l0_4 x65_2).f2))).setCell ⟨gb186,3,none⟩ (.slice (some ad187) ((rd_T98 l0_4 x65_2).f3).length c185_3))).cell? _=some _ from hx187_0));clear hn187_0;clear hn187_1;clear hn187_2;clear hn187_3;replace p187:=eq_true p187;replace q187:=eq_true q187)|(go_at_call 162;(with_reducible refine (spec_l2First.calls k2 _ _ l0_3 (rd ((rd_T98 l0_4 x65_2).f3) 0) t188 _ ?side1 HC0_3.out A59.out).mono ?_);(case side1=>exact Kd.C_below HR0_3.out (mb_ HB));rintro e w' ⟨rfl,⟨nd,rfl⟩⟩;(try first|exact ⟨rfl,_,World.drewN_drewN _ _ _⟩|exact ⟨rfl,_,Eq.trans (World.drewN_drewN _ _ _) (congrArg (World.drewN _) (Nat.add_assoc _ _ _))⟩)));try go_quiet (first|(go_at_call 162;(with_reducible refine (spec_l2First.calls k2 _ _ l0_3 (rd ((rd_T98 l0_4 x65_2).f3) 0) t188 _ ?side1 HC0_3.out A59.out).mono ?_);(case side1=>exact Kd.C_below HR0_3.out (mb_ HB));rintro e w' ⟨rfl,⟨nd,rfl⟩⟩;(try first|exact ⟨rfl,_,World.drewN_drewN _ _ _⟩|exact ⟨rfl,_,Eq.trans (World.drewN_drewN _ _ _) (congrArg (World.drewN _) (Nat.add_assoc _ _ _))⟩))))
    go_loopg [11] k2 (fun kq v11 w'=>∃(x11_3:Int),v11=.int .i64 x11_3∧Aside0 (spec_l2Scope.l3 kq x3_1 x65_2 x11_3 l0_4 (l0_4.length:Int) x65_2 a0_0 a0_1 l0_2 l0_3 l0_4 ((rd_T98 l0_4 x65_2).f0) ((rd_T98 l0_4 x65_2).f1) ((rd_T98 l0_4 x65_2).f2) ((rd_T98 l0_4 x65_2).f3)=some r)∧Aside0 (kq≤k2)∧Aside0 (Kd.R Kd.string 9 w' w.heap.size (fun _=>True) u3 x3_1)∧Aside0 (w'.heap[gb173]?=some (.cells #[.string a0_0,.int .i64 a0_1,(.slice A0_2 l0_2.length c0_2),(.slice A0_3 l0_3.length c0_3),(.slice (some ad185) l0_4.length c0_4)] 39 (0,0)))∧Aside0 (w'.heap[gb186]?=some (.cells #[.int .i64 ((rd_T98 l0_4 x65_2).f0),.int .i64 ((rd_T98 l0_4 x65_2).f1),.string ((rd_T98 l0_4 x65_2).f2),(.slice (some ad187) ((rd_T98 l0_4 x65_2).f3).length c185_3)] 98 (0,0)))∧Aside0 (Below w.heap.size w w'))
    case atStart=>exact ⟨(t188),mq_,H',⟨Nat.le_refl _⟩,⟨(Kd.R_mono (mf_ HO_3 BK186) (fun _ hk=>trivial))⟩,⟨mc_ BK173⟩,⟨mp_ BK186⟩,⟨mb_ HB⟩⟩
    clear H';(try clear c51b0);(try clear c52b0);(try clear c53b0);(try clear c54b0);(try clear c54b1);(try clear c54b2);(try clear c58b0);(try clear c58b1);(try clear hx185_0);(try clear hx185_1);(try clear hx185_2);(try clear hx185_3);(try clear hx187_0);(try clear p185);(try clear p187);(try clear q185);(try clear q187);obtain ⟨x11_3,rfl,HA,HK3,HO_3,BK173,BK186,HB⟩:=hrel;obtain _|k3:=gk
    ·exact absurd HA.out (by simp [spec_l2Scope.l3])
    have H:=HA.out;clear HA;simp only [spec_l2Scope.l3] at H;obtain ⟨ji64,hji64⟩:∃j_:Int,(wrap64 ((((rd_T98 l0_4 x65_2).f3).length:Int)-1))=j_:=⟨_,rfl⟩;replace H:(if 0≤(ji64) then (if (ji64)<(((rd_T98 l0_4 x65_2).f3).length:Int) then (if x11_3≤(rd ((rd_T98 l0_4 x65_2).f3) (ji64)) then (if 0≤x11_3 then (if x11_3<(l0_3.length:Int) then (if ((rd_T161 l0_3 x11_3).f0)=1 then ((spec_l2Is.f k3 ((rd_T161 l0_3 x11_3).f2) x3_1).bind fun t192=>(if t192=true then (spec_l2Scope.l3 k3 x3_1 x65_2 (wrap64 (x11_3+1)) l0_4 (l0_4.length:Int) x65_2 a0_0 a0_1 l0_2 l0_3 l0_4 ((rd_T98 l0_4 x65_2).f0) ((rd_T98 l0_4 x65_2).f1) ((rd_T98 l0_4 x65_2).f2) ((rd_T98 l0_4 x65_2).f3)) else (some (wrap64 ((wrap64 ((l0_2.length:Int)+x65_2))+1))))) else (spec_l2Scope.l3 k3 x3_1 x65_2 (wrap64 (x11_3+1)) l0_4 (l0_4.length:Int) x65_2 a0_0 a0_1 l0_2 l0_3 l0_4 ((rd_T98 l0_4 x65_2).f0) ((rd_T98 l0_4 x65_2).f1) ((rd_T98 l0_4 x65_2).f2) ((rd_T98 l0_4 x65_2).f3))) else (none)) else (none)) else (spec_l2Scope.l2 k3 x3_1 l0_4 (l0_4.length:Int) (wrap64 (x65_2+1)) a0_0 a0_1 l0_2 l0_3 l0_4)) else (none)) else (none))=some r:=by first|(rw [hji64] at H;exact H)|(simp only [hji64] at H ⊢;exact H)
    have hji64w:(IntKind.i64.wrap ((((rd_T98 l0_4 x65_2).f3).length:Int)-1))=ji64:=(i64_w _).trans hji64
    by_cases c65:0≤(ji64)
    case neg=>
     rw [if_neg c65] at H;cases H
    rw [if_pos c65] at H;have c65b0:=ct_ c65;clear c65;by_cases c66:(ji64)<(((rd_T98 l0_4 x65_2).f3).length:Int)
    case neg=>
     rw [if_neg c66] at H;cases H
    rw [if_pos c66] at H;have c66b0:=ct_ c66;clear c66;by_cases c67:x11_3≤(rd ((rd_T98 l0_4 x65_2).f3) (ji64))
    ·rw [if_pos c67] at H;have c67b0:=ct_ c67;clear c67;by_cases c68:0≤x11_3
     case neg=>
      rw [if_neg c68] at H;cases H
     rw [if_pos c68] at H;have c68b0:=ct_ c68;clear c68;by_cases c69:x11_3<(l0_3.length:Int)
     case neg=>
      rw [if_neg c69] at H;cases H
     rw [if_pos c69] at H;have c69b0:=ct_ c69;clear c69;by_cases c70:((rd_T161 l0_3 x11_3).f0)=1
     ·rw [if_pos c70] at H;obtain ⟨c70b0,c70b1⟩:=bq_ c70;clear c70;obtain ⟨t192,A71,H⟩:=ob_ H;by_cases c72:t192=true
      ·subst c72;rw [if_pos rfl] at H;have H':=a_ H;clear H;have nNB186_173:=NB186_173.out;have nNB173_186:=NB173_186.out;replace hz186:=cz4 BK186;have p189:0≤((ji64):Int):=md_
       have q189:(ji64)<(((rd_T98 l0_4 x65_2).f3).length:Int):=md_
       obtain ⟨ad189,e189,hx189_0⟩:=Kd.at_int HR185_3.out (ji64) p189 q189;obtain rfl:ad187=ad189:=(by injection e189);replace hx189_0:=mx_ HB hx189_0;replace p189:=eq_true p189;replace q189:=eq_true q189;replace hz173:=cz5 BK173;have p190:0≤(x11_3:Int):=md_
       have q190:x11_3<(l0_3.length:Int):=md_
       obtain ⟨ad190,e190,hx190_0,hx190_1,hx190_2,hx190_3,hx190_4,hx190_5,hx190_6,hx190_7⟩:=at_T161 HR0_3.out x11_3 p190 q190;cases e190;replace hx190_0:=mx_ HB hx190_0;replace hx190_1:=mx_ HB hx190_1;replace hx190_2:=mx_ HB hx190_2;replace hx190_3:=mx_ HB hx190_3;replace hx190_4:=mx_ HB hx190_4;replace hx190_5:=mx_ HB hx190_5;replace hx190_6:=mx_ HB hx190_6;replace hx190_7:=mx_ HB hx190_7;replace p190:=eq_true p190;replace q190:=eq_true q190;iterate 3 (go_wp2_with (first|((with_reducible refine gate_dst (N:=12) rfl ?_);refine bh_ 12 #[.int .i64 0,.int .u8 0,.string (⟨#[]⟩:ByteArray),.int .i64 0,.int .i64 0,.string (⟨#[]⟩:ByteArray),.int .i64 0,.int .i64 0] 161 HB ?_;intro gb191 hg w76 BK191 GE191 hb;obtain ⟨NB173_191,NB191_173⟩:=mn_ BK173 hg;obtain ⟨NB186_191,NB191_186⟩:=mn_ BK186 hg;replace HO_3:=ro_ HO_3 hb;replace BK173:=mk_ BK173 hb;replace BK186:=mk_ BK186 hb;replace HB:=ms_ HB hb;clear hb hg;have nNB191_173:=NB191_173.out;have nNB173_191:=NB173_191.out;have nNB191_186:=NB191_186.out;have nNB186_191:=NB186_191.out;replace hz191:=cz8 BK191;obtain ⟨Ao80,co80,eo80⟩:=Kd.R_slice HO_3.out;subst eo80)|(go_at_call 161;(with_reducible refine (spec_l2Is.calls k3 ((rd_T161 l0_3 x11_3).f2) _ _ x3_1 true _ ?side1 ?side2 A71.out).mono ?_);(case side1=>refine (Kd.R_reads' (e:=9) (base:=w.heap.size) (ok:=fun k_=>True) (n:=x3_1.length) (c:=co80) ?_).2.2;exact ((Kd.R_mono (mf_ HO_3 BK191) (fun _ h_=>h_.1))));(case side2=>exact (Kd.R_reads' HO_3.out).2.1);rintro e w' ⟨rfl,⟨nd,rfl⟩⟩;(try first|exact ⟨rfl,_,World.drewN_drewN _ _ _⟩|exact ⟨rfl,_,Eq.trans (World.drewN_drewN _ _ _) (congrArg (World.drewN _) (Nat.add_assoc _ _ _))⟩)));try go_quiet (first|(go_at_call 161;(with_reducible refine (spec_l2Is.calls k3 ((rd_T161 l0_3 x11_3).f2) _ _ x3_1 true _ ?side1 ?side2 A71.out).mono ?_);(case side1=>refine (Kd.R_reads' (e:=9) (base:=w.heap.size) (ok:=fun k_=>True) (n:=x3_1.length) (c:=co80) ?_).2.2;exact ((Kd.R_mono (mf_ HO_3 BK191) (fun _ h_=>h_.1))));(case side2=>exact (Kd.R_reads' HO_3.out).2.1);rintro e w' ⟨rfl,⟨nd,rfl⟩⟩;(try first|exact ⟨rfl,_,World.drewN_drewN _ _ _⟩|exact ⟨rfl,_,Eq.trans (World.drewN_drewN _ _ _) (congrArg (World.drewN _) (Nat.add_assoc _ _ _))⟩))))
       go_roundg k3
       case measure=>
        have:=HK1.out
        have:=HK2.out
        have:=HK3.out
        omega
       case rel=>exact ub62_1
      ·replace c72:=Bool.eq_false_iff.mpr c72;subst c72;rw [if_neg (show ¬(false=true) by decide)] at H;obtain rfl:=oi_ H;have nNB186_173:=NB186_173.out;have nNB173_186:=NB173_186.out;replace hz186:=cz4 BK186;have p189:0≤((ji64):Int):=md_
       have q189:(ji64)<(((rd_T98 l0_4 x65_2).f3).length:Int):=md_
       obtain ⟨ad189,e189,hx189_0⟩:=Kd.at_int HR185_3.out (ji64) p189 q189;obtain rfl:ad187=ad189:=(by injection e189);replace hx189_0:=mx_ HB hx189_0;replace p189:=eq_true p189;replace q189:=eq_true q189;replace hz173:=cz5 BK173;have p190:0≤(x11_3:Int):=md_
       have q190:x11_3<(l0_3.length:Int):=md_
       obtain ⟨ad190,e190,hx190_0,hx190_1,hx190_2,hx190_3,hx190_4,hx190_5,hx190_6,hx190_7⟩:=at_T161 HR0_3.out x11_3 p190 q190;cases e190;replace hx190_0:=mx_ HB hx190_0;replace hx190_1:=mx_ HB hx190_1;replace hx190_2:=mx_ HB hx190_2;replace hx190_3:=mx_ HB hx190_3;replace hx190_4:=mx_ HB hx190_4;replace hx190_5:=mx_ HB hx190_5;replace hx190_6:=mx_ HB hx190_6;replace hx190_7:=mx_ HB hx190_7;replace p190:=eq_true p190;replace q190:=eq_true q190;iterate 3 (go_wp2_with (first|((with_reducible refine gate_dst (N:=12) rfl ?_);refine bh_ 12 #[.int .i64 0,.int .u8 0,.string (⟨#[]⟩:ByteArray),.int .i64 0,.int .i64 0,.string (⟨#[]⟩:ByteArray),.int .i64 0,.int .i64 0] 161 HB ?_;intro gb191 hg w84 BK191 GE191 hb;obtain ⟨NB173_191,NB191_173⟩:=mn_ BK173 hg;obtain ⟨NB186_191,NB191_186⟩:=mn_ BK186 hg;replace HO_3:=ro_ HO_3 hb;replace BK173:=mk_ BK173 hb;replace BK186:=mk_ BK186 hb;replace HB:=ms_ HB hb;clear hb hg;have nNB191_173:=NB191_173.out;have nNB173_191:=NB173_191.out;have nNB191_186:=NB191_186.out;have nNB186_191:=NB186_191.out;replace hz191:=cz8 BK191;obtain ⟨Ao88,co88,eo88⟩:=Kd.R_slice HO_3.out;subst eo88)|(go_at_call 161;(with_reducible refine (spec_l2Is.calls k3 ((rd_T161 l0_3 x11_3).f2) _ _ x3_1 false _ ?side1 ?side2 A71.out).mono ?_);(case side1=>refine (Kd.R_reads' (e:=9) (base:=w.heap.size) (ok:=fun k_=>True) (n:=x3_1.length) (c:=co88) ?_).2.2;exact ((Kd.R_mono (mf_ HO_3 BK191) (fun _ h_=>h_.1))));(case side2=>exact (Kd.R_reads' HO_3.out).2.1);rintro e w' ⟨rfl,⟨nd,rfl⟩⟩;(try first|exact ⟨rfl,_,World.drewN_drewN _ _ _⟩|exact ⟨rfl,_,Eq.trans (World.drewN_drewN _ _ _) (congrArg (World.drewN _) (Nat.add_assoc _ _ _))⟩);replace hz173:=cz5 BK173));try go_quiet (first|(go_at_call 161;(with_reducible refine (spec_l2Is.calls k3 ((rd_T161 l0_3 x11_3).f2) _ _ x3_1 false _ ?side1 ?side2 A71.out).mono ?_);(case side1=>refine (Kd.R_reads' (e:=9) (base:=w.heap.size) (ok:=fun k_=>True) (n:=x3_1.length) (c:=co88) ?_).2.2;exact ((Kd.R_mono (mf_ HO_3 BK191) (fun _ h_=>h_.1))));(case side2=>exact (Kd.R_reads' HO_3.out).2.1);rintro e w' ⟨rfl,⟨nd,rfl⟩⟩;(try first|exact ⟨rfl,_,World.drewN_drewN _ _ _⟩|exact ⟨rfl,_,Eq.trans (World.drewN_drewN _ _ _) (congrArg (World.drewN _) (Nat.add_assoc _ _ _))⟩);replace hz173:=cz5 BK173)))
       go_ret;exact ⟨by first|rfl|(simp [errW_none,errW_some]<;>rfl)|(simp only [←hji64];first|rfl|(simp [errW_none,errW_some]<;>rfl))|(simp [*,errW_none,errW_some]<;>rfl),mb_ HB⟩
     ·rw [if_neg c70] at H;obtain ⟨c70b0,c70b1⟩:=bn_ c70;have H':=a_ H;clear H;have nNB186_173:=NB186_173.out;have nNB173_186:=NB173_186.out;replace hz186:=cz4 BK186;have p189:0≤((ji64):Int):=md_
      have q189:(ji64)<(((rd_T98 l0_4 x65_2).f3).length:Int):=md_
      obtain ⟨ad189,e189,hx189_0⟩:=Kd.at_int HR185_3.out (ji64) p189 q189;obtain rfl:ad187=ad189:=(by injection e189);replace hx189_0:=mx_ HB hx189_0;replace p189:=eq_true p189;replace q189:=eq_true q189;replace hz173:=cz5 BK173;have p190:0≤(x11_3:Int):=md_
      have q190:x11_3<(l0_3.length:Int):=md_
      obtain ⟨ad190,e190,hx190_0,hx190_1,hx190_2,hx190_3,hx190_4,hx190_5,hx190_6,hx190_7⟩:=at_T161 HR0_3.out x11_3 p190 q190;cases e190;replace hx190_0:=mx_ HB hx190_0;replace hx190_1:=mx_ HB hx190_1;replace hx190_2:=mx_ HB hx190_2;replace hx190_3:=mx_ HB hx190_3;replace hx190_4:=mx_ HB hx190_4;replace hx190_5:=mx_ HB hx190_5;replace hx190_6:=mx_ HB hx190_6;replace hx190_7:=mx_ HB hx190_7;replace p190:=eq_true p190;replace q190:=eq_true q190;iterate 3 (go_wp2_with (first|((with_reducible refine gate_dst (N:=12) rfl ?_);refine bh_ 12 #[.int .i64 0,.int .u8 0,.string (⟨#[]⟩:ByteArray),.int .i64 0,.int .i64 0,.string (⟨#[]⟩:ByteArray),.int .i64 0,.int .i64 0] 161 HB ?_;intro gb191 hg w93 BK191 GE191 hb;obtain ⟨NB173_191,NB191_173⟩:=mn_ BK173 hg;obtain ⟨NB186_191,NB191_186⟩:=mn_ BK186 hg;replace HO_3:=ro_ HO_3 hb;replace BK173:=mk_ BK173 hb;replace BK186:=mk_ BK186 hb;replace HB:=ms_ HB hb;clear hb hg;have nNB191_173:=NB191_173.out;have nNB173_191:=NB173_191.out;have nNB191_186:=NB191_186.out;have nNB186_191:=NB186_191.out;replace hz191:=cz8 BK191));try go_quiet (fail))
      go_roundg k3
      case measure=>
       have:=HK1.out
       have:=HK2.out
       have:=HK3.out
       omega
      case rel=>exact ub62_1
    ·rw [if_neg c67] at H;have c67b0:=cf_ c67;clear c67;have H':=a_ H;clear H;have nNB186_173:=NB186_173.out;have nNB173_186:=NB173_186.out;replace hz186:=cz4 BK186;have p189:0≤((ji64):Int):=md_
     have q189:(ji64)<(((rd_T98 l0_4 x65_2).f3).length:Int):=md_
     obtain ⟨ad189,e189,hx189_0⟩:=Kd.at_int HR185_3.out (ji64) p189 q189;obtain rfl:ad187=ad189:=(by injection e189);replace hx189_0:=mx_ HB hx189_0;replace p189:=eq_true p189;replace q189:=eq_true q189;go_wp2;repeat (go_quiet (fail);try go_wp2)
     go_roundg k3
     case measure=>
      have:=HK1.out
      have:=HK2.out
      have:=HK3.out
      omega
     case rel=>exact ⟨(wrap64 (x65_2+1)),mq_,H',⟨by have:=HK1.out;have:=HK2.out;have:=HK3.out;omega⟩,⟨mo_ HO_3.out⟩,⟨mc_ BK173⟩,⟨mb_ HB⟩⟩
  ·rw [if_neg c51] at H;have c51b0:=cf_ c51;clear c51;obtain rfl:=oi_ H;go_wp2;repeat (go_quiet (fail);try go_wp2)
   go_ret;exact ⟨me_,mb_ HB⟩
end Go.Proofs.YtahambloheoebaaGreatDoor.P
namespace Go.Proofs.YtahambloheoebaaGreatDoor.P
open Go.Proofs.YtahambloheoebaaGreatDoorX
open Go.RowKit Go.Proofs.YtahambloheoebaaGreatDoorW.PrintWords Go.Proofs.YtahambloheoebaaGreatDoorW.PrintLast Go.Proofs.YtahambloheoebaaGreatDoorW.PrintMore
attribute [local go_sem] max2_int min2_int max_two min_two max_three min_three max_four min_four
set_option linter.unusedVariables false
set_option linter.unusedSimpArgs false
mutual
def spec_CheckRules.l0:Nat→List (S39)→List (S39)→Int→Int→Option (Int×Int×Int)
 | 0,_,_,_,_=>none
 | k+1,x0,x15,x16,x17=>if x17<x16 then (if 0≤x17 then (if x17<(x15.length:Int) then ((spec_l2Shape.f k ((rd_T39 x15 x17).f0) ((rd_T39 x15 x17).f1) ((rd_T39 x15 x17).f2) ((rd_T39 x15 x17).f3) ((rd_T39 x15 x17).f4)).bind fun t196=>(if t196≥0 then (some (1,x17,t196)) else (if x17≤(x0.length:Int) then ((some (x0.take (x17:Int).toNat:List (S39))).bind fun y197=>(spec_CheckRules.l1 k x0 x17 x15 x16 x17 y197 (y197.length:Int) 0 ((rd_T39 x15 x17).f0) ((rd_T39 x15 x17).f1) ((rd_T39 x15 x17).f2) ((rd_T39 x15 x17).f3) ((rd_T39 x15 x17).f4))) else (none)))) else (none)) else (none)) else (some (0,0,0))
def spec_CheckRules.l1:Nat→List (S39)→Int→List (S39)→Int→Int→List (S39)→Int→Int→ByteArray→Int→List (S42)→List (S161)→List (S98)→Option (Int×Int×Int)
 | 0,_,_,_,_,_,_,_,_,_,_,_,_,_=>none
 | k+1,x0,x3,x15,x16,x17,x31,x32,x33,x196000,x196001,x196002,x196003,x196004=>if x33<x32 then (if 0≤x33 then (if x33<(x31.length:Int) then (if ((rd_T39 x31 x33).f0).toList=x196000.toList then (some (2,x3,0)) else (spec_CheckRules.l1 k x0 x3 x15 x16 x17 x31 x32 (wrap64 (x33+1)) x196000 x196001 x196002 x196003 x196004)) else (none)) else (none)) else ((spec_l2Positive.f k x196000 x196001 x196002 x196003 x196004).bind fun t203=>(if t203<1 then (spec_CheckRules.j2 k x0 x3 t203 x15 x16 x17 true x196000 x196001 x196002 x196003 x196004) else (spec_CheckRules.j2 k x0 x3 t203 x15 x16 x17 (decide (t203>3)) x196000 x196001 x196002 x196003 x196004)))
def spec_CheckRules.j2:Nat→List (S39)→Int→Int→List (S39)→Int→Int→Bool→ByteArray→Int→List (S42)→List (S161)→List (S98)→Option (Int×Int×Int)
 | 0,_,_,_,_,_,_,_,_,_,_,_,_=>none
 | k+1,x0,x3,x8,x15,x16,x17,x52,x196000,x196001,x196002,x196003,x196004=>if x52=true then (some (3,x3,0)) else ((spec_l2Scope.f k x196000 x196001 x196002 x196003 x196004).bind fun t204=>(if t204≥0 then (some (4,x3,t204)) else (spec_CheckRules.l2 k x0 x3 x8 x15 x16 x17 x196004 (x196004.length:Int) 0 x196000 x196001 x196002 x196003 x196004)))
def spec_CheckRules.l2:Nat→List (S39)→Int→Int→List (S39)→Int→Int→List (S98)→Int→Int→ByteArray→Int→List (S42)→List (S161)→List (S98)→Option (Int×Int×Int)
 | 0,_,_,_,_,_,_,_,_,_,_,_,_,_,_=>none
 | k+1,x0,x3,x8,x15,x16,x17,x63,x64,x65,x196000,x196001,x196002,x196003,x196004=>if x65<x64 then (if 0≤x65 then (if x65<(x63.length:Int) then (if ((rd_T98 x63 x65).f0)=2 then (if ((rd_T98 x63 x65).f1)<1 then (some (5,x3,wrap64 ((wrap64 ((x196002.length:Int)+x65))+1))) else (if ((rd_T98 x63 x65).f1)>x8 then (some (5,x3,wrap64 ((wrap64 ((x196002.length:Int)+x65))+1))) else (spec_CheckRules.l2 k x0 x3 x8 x15 x16 x17 x63 x64 (wrap64 (x65+1)) x196000 x196001 x196002 x196003 x196004))) else (if ((rd_T98 x63 x65).f0)=3 then (if ((rd_T98 x63 x65).f1)<1 then (some (5,x3,wrap64 ((wrap64 ((x196002.length:Int)+x65))+1))) else (if ((rd_T98 x63 x65).f1)>x8 then (some (5,x3,wrap64 ((wrap64 ((x196002.length:Int)+x65))+1))) else (spec_CheckRules.l2 k x0 x3 x8 x15 x16 x17 x63 x64 (wrap64 (x65+1)) x196000 x196001 x196002 x196003 x196004))) else (spec_CheckRules.l2 k x0 x3 x8 x15 x16 x17 x63 x64 (wrap64 (x65+1)) x196000 x196001 x196002 x196003 x196004))) else (none)) else (none)) else (spec_CheckRules.l0 k x0 x15 x16 (wrap64 (x17+1)))
end
def spec_CheckRules.f (k:Nat) (l0:List (S39)):Option (Int×Int×Int):=if (l0.length:Int)>16 then (some (1,0,0)) else (spec_CheckRules.l0 k l0 l0 (l0.length:Int) 0)
theorem spec_CheckRules.mono_l:∀k,(∀y0 y1 y2 y3,LeO (spec_CheckRules.l0 k y0 y1 y2 y3) (spec_CheckRules.l0 (k+1) y0 y1 y2 y3))∧(∀y0 y1 y2 y3 y4 y5 y6 y7 y8 y9 y10 y11 y12,LeO (spec_CheckRules.l1 k y0 y1 y2 y3 y4 y5 y6 y7 y8 y9 y10 y11 y12) (spec_CheckRules.l1 (k+1) y0 y1 y2 y3 y4 y5 y6 y7 y8 y9 y10 y11 y12))∧(∀y0 y1 y2 y3 y4 y5 y6 y7 y8 y9 y10 y11,LeO (spec_CheckRules.j2 k y0 y1 y2 y3 y4 y5 y6 y7 y8 y9 y10 y11) (spec_CheckRules.j2 (k+1) y0 y1 y2 y3 y4 y5 y6 y7 y8 y9 y10 y11))∧(∀y0 y1 y2 y3 y4 y5 y6 y7 y8 y9 y10 y11 y12 y13,LeO (spec_CheckRules.l2 k y0 y1 y2 y3 y4 y5 y6 y7 y8 y9 y10 y11 y12 y13) (spec_CheckRules.l2 (k+1) y0 y1 y2 y3 y4 y5 y6 y7 y8 y9 y10 y11 y12 y13))
 | 0=>⟨fun _ _ _ _ r h=>by simp [spec_CheckRules.l0] at h,fun _ _ _ _ _ _ _ _ _ _ _ _ _ r h=>by simp [spec_CheckRules.l1] at h,fun _ _ _ _ _ _ _ _ _ _ _ _ r h=>by simp [spec_CheckRules.j2] at h,fun _ _ _ _ _ _ _ _ _ _ _ _ _ _ r h=>by simp [spec_CheckRules.l2] at h⟩
 | k+1=>by
  obtain ⟨ih0,ih1,ih2,ih3⟩:=spec_CheckRules.mono_l k;refine ⟨?_,?_,?_,?_⟩
  ·intro y0 y1 y2 y3;unfold spec_CheckRules.l0
   repeat' with_reducible first|apply ih0|apply ih1|apply ih2|apply ih3|apply spec_l2Positive.mono|apply spec_l2Scope.mono|apply spec_l2Shape.mono|apply LeO.refl|apply LeO.none|refine LeO.ite ?_ ?_|refine LeO.bind ?_ (fun _=>?_)
  ·intro y0 y1 y2 y3 y4 y5 y6 y7 y8 y9 y10 y11 y12;unfold spec_CheckRules.l1
   repeat' with_reducible first|apply ih0|apply ih1|apply ih2|apply ih3|apply spec_l2Positive.mono|apply spec_l2Scope.mono|apply spec_l2Shape.mono|apply LeO.refl|apply LeO.none|refine LeO.ite ?_ ?_|refine LeO.bind ?_ (fun _=>?_)
  ·intro y0 y1 y2 y3 y4 y5 y6 y7 y8 y9 y10 y11;unfold spec_CheckRules.j2
   repeat' with_reducible first|apply ih0|apply ih1|apply ih2|apply ih3|apply spec_l2Positive.mono|apply spec_l2Scope.mono|apply spec_l2Shape.mono|apply LeO.refl|apply LeO.none|refine LeO.ite ?_ ?_|refine LeO.bind ?_ (fun _=>?_)
  ·intro y0 y1 y2 y3 y4 y5 y6 y7 y8 y9 y10 y11 y12 y13;unfold spec_CheckRules.l2
   repeat' with_reducible first|apply ih0|apply ih1|apply ih2|apply ih3|apply spec_l2Positive.mono|apply spec_l2Scope.mono|apply spec_l2Shape.mono|apply LeO.refl|apply LeO.none|refine LeO.ite ?_ ?_|refine LeO.bind ?_ (fun _=>?_)
theorem spec_CheckRules.mono:∀a0 k,LeO (spec_CheckRules.f k a0) (spec_CheckRules.f (k+1) a0):=by
 intro a0 k;obtain ⟨ih0,ih1,ih2,ih3⟩:=spec_CheckRules.mono_l k;unfold spec_CheckRules.f
 repeat' with_reducible first|apply ih0|apply ih1|apply ih2|apply ih3|apply spec_l2Positive.mono|apply spec_l2Scope.mono|apply spec_l2Shape.mono|apply LeO.refl|apply LeO.none|refine LeO.ite ?_ ?_|refine LeO.bind ?_ (fun _=>?_)
theorem u781_1 {p:Prop} (h:p:=by
 have H':=a_ H;clear H;have p205:0≤(x65_4:Int):=md_
 have q205:x65_4<(((rd_T39 l0 x17_1).f4).length:Int):=md_
 obtain ⟨ad205,A205_3,c205_3,e205,hx205_0,hx205_1,hx205_2,hx205_3,hl205_3,hi205_3⟩:=at_T98 HR194_4.out x65_4 p205 q205;cases e205;replace hx205_0:=mx_ HB hx205_0;replace hx205_1:=mx_ HB hx205_1;replace hx205_2:=mx_ HB hx205_2;replace hx205_3:=mx_ HB hx205_3;have HR205_3:=a_ hi205_3;have HC205_3:=a_ hl205_3;clear hi205_3 hl205_3;replace p205:=eq_true p205;replace q205:=eq_true q205;go_wp2_with (first|((with_reducible refine gate_dst (N:=10) rfl ?_);refine bh_ 10 #[.int .i64 0,.int .i64 0,.string (⟨#[]⟩:ByteArray),.slice none 0 0] 98 HB ?_;intro gb206 hg wx BK206 GE206 hb;obtain ⟨NB193_206,NB206_193⟩:=mn_ BK193 hg;obtain ⟨NB195_206,NB206_195⟩:=mn_ BK195 hg;replace BK193:=mk_ BK193 hb;replace BK195:=mk_ BK195 hb;replace HB:=ms_ HB hb;clear hb hg;have nNB206_193:=NB206_193.out;have nNB193_206:=NB193_206.out;have nNB206_195:=NB206_195.out;have nNB195_206:=NB195_206.out;replace hz206:=cz4 BK206));go_roundg k4
 case measure=>
  have:=HK1.out
  have:=HK2.out
  have:=HJ40.out
  have:=HK4.out
  omega
 case rel=>exact ⟨(wrap64 (x65_4+1)),(x194000_4),(x194001_4),(x194002_4),mq_,H',⟨by have:=HK1.out;have:=HK2.out;have:=HJ40.out;have:=HK4.out;omega⟩,⟨mc_ BK193⟩,⟨mc_ BK195⟩,⟨mb_ HB⟩⟩):p:=h
theorem u781_0 {p:Prop} (h:p:=by
 simp only [Option.some.injEq,Prod.mk.injEq] at H;obtain ⟨rfl,rfl,rfl⟩:=H;have p205:0≤(x65_4:Int):=md_
 have q205:x65_4<(((rd_T39 l0 x17_1).f4).length:Int):=md_
 obtain ⟨ad205,A205_3,c205_3,e205,hx205_0,hx205_1,hx205_2,hx205_3,hl205_3,hi205_3⟩:=at_T98 HR194_4.out x65_4 p205 q205;cases e205;replace hx205_0:=mx_ HB hx205_0;replace hx205_1:=mx_ HB hx205_1;replace hx205_2:=mx_ HB hx205_2;replace hx205_3:=mx_ HB hx205_3;have HR205_3:=a_ hi205_3;have HC205_3:=a_ hl205_3;clear hi205_3 hl205_3;replace p205:=eq_true p205;replace q205:=eq_true q205;go_wp2_with (first|((with_reducible refine gate_dst (N:=10) rfl ?_);refine bh_ 10 #[.int .i64 0,.int .i64 0,.string (⟨#[]⟩:ByteArray),.slice none 0 0] 98 HB ?_;intro gb206 hg wx BK206 GE206 hb;obtain ⟨NB193_206,NB206_193⟩:=mn_ BK193 hg;obtain ⟨NB195_206,NB206_195⟩:=mn_ BK195 hg;replace BK193:=mk_ BK193 hb;replace BK195:=mk_ BK195 hb;replace HB:=ms_ HB hb;clear hb hg;have nNB206_193:=NB206_193.out;have nNB193_206:=NB193_206.out;have nNB206_195:=NB206_195.out;have nNB195_206:=NB195_206.out;replace hz206:=cz4 BK206;have nNB195_193:=NB195_193.out;have nNB193_195:=NB193_195.out;replace hz195:=cz5 BK195;replace hz193:=cz3 BK193));refine bodyPost_ret (results_cell_row rfl _ _ gb193 128 #[.int .i64 5,.int .i64 x17_1,.int .i64 (wrap64 ((wrap64 ((((rd_T39 l0 x17_1).f2).length:Int)+x65_4))+1))] (0,0) _ rfl (mp_ BK193) Tryz.underlying128 rfl (by kernel_rfl)) rfl ?_;exact ⟨me_,mb_ HB⟩):p:=h
set_option maxHeartbeats 8000000 in
set_option maxRecDepth 100000 in
theorem spec_CheckRules.calls (k:Nat) (A0:Option Addr) (c0:Nat) (l0:List (S39)) (r1:Int) (r2:Int) (r3:Int) (w:World) (hr0:Kd.C k39 w A0 l0.length l0) (hc0:l0.length≤c0) (h:spec_CheckRules.f k l0=some (r1,r2,r3)):
  Calls Tryz.prog 79 #[.slice A0 l0.length c0] w fun e w'=>e=.returned (.agg #[.int .i64 r1,.int .i64 r2,.int .i64 r3])∧Below w.heap.size w w':=by
 have hu128:=Tryz.underlying128;have hu39:=Tryz.underlying39;have hu98:=Tryz.underlying98;have HR0:=a_ hr0;have HC0:=a_ hc0;clear hr0 hc0;have HB:=a_ (Below.refl w.heap.size w);have H:=h;unfold spec_CheckRules.f at H
 clear h;by_cases c2:(l0.length:Int)>16
 ·rw [if_pos c2] at H;have c2b0:=ct_ c2;have c2b1:decide (16<l0.length)=true:=decide_eq_true (by omega)
  clear c2;simp only [Option.some.injEq,Prod.mk.injEq] at H;obtain ⟨rfl,rfl,rfl⟩:=H;go_enter Tryz.func79,Tryz.ntmps79;go_wp2_with (first|((with_reducible refine gate_dst (N:=2) rfl ?_);refine bh_ 2 #[.int .i64 0,.int .i64 0,.int .i64 0] 128 HB ?_;intro gb193 hg wx BK193 GE193 hb;replace HB:=ms_ HB hb;clear hb hg;replace hz193:=cz3 BK193));refine bodyPost_ret (results_cell_row rfl _ _ gb193 128 #[.int .i64 1,.int .i64 0,.int .i64 0] (0,0) _ rfl (mp_ BK193) Tryz.underlying128 rfl (by kernel_rfl)) rfl ?_;exact ⟨me_,mb_ HB⟩
 ·rw [if_neg c2] at H;have c2b0:=cf_ c2;have c2b1:decide (16<l0.length)=false:=decide_eq_false (by omega)
  clear c2;have H':=a_ H;clear H;go_enter Tryz.func79,Tryz.ntmps79;go_wp2_with (first|((with_reducible refine gate_dst (N:=2) rfl ?_);refine bh_ 2 #[.int .i64 0,.int .i64 0,.int .i64 0] 128 HB ?_;intro gb193 hg wx BK193 GE193 hb;replace HB:=ms_ HB hb;clear hb hg));go_loopg [17] k (fun kq v17 w'=>∃(x17_1:Int) (x194000_1:Int) (x194001_1:Int) (x194002_1:Int),v17=.int .i64 x17_1∧Aside0 (spec_CheckRules.l0 kq l0 l0 (l0.length:Int) x17_1=some (r1,r2,r3))∧Aside0 (kq≤k)∧Aside0 (w'.heap[gb193]?=some (.cells #[.int .i64 x194000_1,.int .i64 x194001_1,.int .i64 x194002_1] 128 (0,0)))∧Aside0 (Below w.heap.size w w'))
  case atStart=>exact ⟨(0),(0),(0),(0),mq_,H',⟨Nat.le_refl _⟩,⟨mc_ BK193⟩,⟨mb_ HB⟩⟩
  clear H';(try clear c2b0);(try clear c2b1);obtain ⟨x17_1,x194000_1,x194001_1,x194002_1,rfl,HA,HK1,BK193,HB⟩:=hrel;obtain _|k1:=gk
  ·exact absurd HA.out (by simp [spec_CheckRules.l0])
  have H:=HA.out;clear HA;simp only [spec_CheckRules.l0] at H;by_cases c6:x17_1<(l0.length:Int)
  ·rw [if_pos c6] at H;have c6b0:=ct_ c6;clear c6;by_cases c7:0≤x17_1
   case neg=>
    rw [if_neg c7] at H;cases H
   rw [if_pos c7] at H;have c7b0:=ct_ c7;clear c7;by_cases c8:x17_1<(l0.length:Int)
   case neg=>
    rw [if_neg c8] at H;cases H
   rw [if_pos c8] at H;have c8b0:=ct_ c8;clear c8;obtain ⟨t196,A9,H⟩:=ob_ H;by_cases c10:t196≥0
   ·rw [if_pos c10] at H;have c10b0:=ct_ c10;clear c10;simp only [Option.some.injEq,Prod.mk.injEq] at H;obtain ⟨rfl,rfl,rfl⟩:=H;have p194:0≤(x17_1:Int):=md_
    have q194:x17_1<(l0.length:Int):=md_
    obtain ⟨ad194,A194_2,c194_2,A194_3,c194_3,A194_4,c194_4,e194,hx194_0,hx194_1,hx194_2,hx194_3,hx194_4,hl194_2,hi194_2,hl194_3,hi194_3,hl194_4,hi194_4⟩:=at_T39 HR0.out x17_1 p194 q194;cases e194;replace hx194_0:=mx_ HB hx194_0;replace hx194_1:=mx_ HB hx194_1;replace hx194_2:=mx_ HB hx194_2;replace hx194_3:=mx_ HB hx194_3;replace hx194_4:=mx_ HB hx194_4;have HR194_2:=a_ hi194_2;have HC194_2:=a_ hl194_2;clear hi194_2 hl194_2;have HR194_3:=a_ hi194_3;have HC194_3:=a_ hl194_3;clear hi194_3 hl194_3;have HR194_4:=a_ hi194_4;have HC194_4:=a_ hl194_4;clear hi194_4 hl194_4;replace p194:=eq_true p194;replace q194:=eq_true q194;go_wp2_with (first|((with_reducible refine gate_dst (N:=4) rfl ?_);refine bh_ 4 #[.string (⟨#[]⟩:ByteArray),.int .i64 0,.slice none 0 0,.slice none 0 0,.slice none 0 0] 39 HB ?_;intro gb195 hg wx BK195 GE195 hb;obtain ⟨NB193_195,NB195_193⟩:=mn_ BK193 hg;replace BK193:=mk_ BK193 hb;replace HB:=ms_ HB hb;clear hb hg;have nNB195_193:=NB195_193.out;have nNB193_195:=NB193_195.out;replace hz195:=cz5 BK195)|((with_reducible refine gate_callee (f:=128) rfl ?_);refine goesL_ (some 23) rfl rfl Tryz.func128 (by kernel_rfl) rfl #[.agg #[.string ((rd_T39 l0 x17_1).f0),.int .i64 ((rd_T39 l0 x17_1).f1),.slice A194_2 ((rd_T39 l0 x17_1).f2).length c194_2,.slice A194_3 ((rd_T39 l0 x17_1).f3).length c194_3,.slice A194_4 ((rd_T39 l0 x17_1).f4).length c194_4]] rfl mw_ ?_;(with_reducible refine (spec_l2Shape.calls k1 ((rd_T39 l0 x17_1).f0) ((rd_T39 l0 x17_1).f1) _ _ ((rd_T39 l0 x17_1).f2) _ _ ((rd_T39 l0 x17_1).f3) _ _ ((rd_T39 l0 x17_1).f4) t196 _ ?side1 HC194_2.out ?side3 HC194_3.out ?side5 HC194_4.out A9.out).mono ?_);(case side1=>exact Kd.C_below HR194_2.out (mb_ HB));(case side3=>exact Kd.C_below HR194_3.out (mb_ HB));(case side5=>exact Kd.C_below HR194_4.out (mb_ HB));rintro e wx ⟨rfl,hb⟩;refine ⟨_,rfl,?_⟩;replace BK193:=mk_ BK193 hb;replace BK195:=a_ (blk_below (g:=gb195) (o:=.cells #[.string ((rd_T39 l0 x17_1).f0),.int .i64 ((rd_T39 l0 x17_1).f1),.slice A194_2 ((rd_T39 l0 x17_1).f2).length c194_2,.slice A194_3 ((rd_T39 l0 x17_1).f3).length c194_3,.slice A194_4 ((rd_T39 l0 x17_1).f4).length c194_4] 39 (0,0)) (mp_ BK195) hb);replace HB:=ms_ HB hb;(try clear hb);replace hz193:=cz3 BK193));refine bodyPost_ret (results_cell_row rfl _ _ gb193 128 #[.int .i64 1,.int .i64 x17_1,.int .i64 t196] (0,0) _ rfl (mp_ BK193) Tryz.underlying128 rfl (by kernel_rfl)) rfl ?_;exact ⟨me_,mb_ HB⟩
   ·rw [if_neg c10] at H;have c10b0:=cf_ c10;clear c10;have c16b0:=eq_true (md_:0≤x17_1);by_cases c17:x17_1≤(l0.length:Int)
    case neg=>
     rw [if_neg c17] at H;cases H
    rw [if_pos c17] at H;have c17b0:=eq_true c17;have c17b1:=ct_ c17;clear c17;obtain ⟨y197,hy197⟩:∃y_:List (S39),y_=(l0.take (x17_1:Int).toNat):=⟨_,rfl⟩;rw [←hy197] at H;(try rw [Option.bind_some] at H);have Ny197:=a_ hy197;clear hy197;have H':=a_ H;clear H;have p194:0≤(x17_1:Int):=md_
    have q194:x17_1<(l0.length:Int):=md_
    obtain ⟨ad194,A194_2,c194_2,A194_3,c194_3,A194_4,c194_4,e194,hx194_0,hx194_1,hx194_2,hx194_3,hx194_4,hl194_2,hi194_2,hl194_3,hi194_3,hl194_4,hi194_4⟩:=at_T39 HR0.out x17_1 p194 q194;cases e194;replace hx194_0:=mx_ HB hx194_0;replace hx194_1:=mx_ HB hx194_1;replace hx194_2:=mx_ HB hx194_2;replace hx194_3:=mx_ HB hx194_3;replace hx194_4:=mx_ HB hx194_4;have HR194_2:=a_ hi194_2;have HC194_2:=a_ hl194_2;clear hi194_2 hl194_2;have HR194_3:=a_ hi194_3;have HC194_3:=a_ hl194_3;clear hi194_3 hl194_3;have HR194_4:=a_ hi194_4;have HC194_4:=a_ hl194_4;clear hi194_4 hl194_4;replace p194:=eq_true p194;replace q194:=eq_true q194;go_wp2_with (first|((with_reducible refine gate_dst (N:=4) rfl ?_);refine bh_ 4 #[.string (⟨#[]⟩:ByteArray),.int .i64 0,.slice none 0 0,.slice none 0 0,.slice none 0 0] 39 HB ?_;intro gb195 hg wx BK195 GE195 hb;obtain ⟨NB193_195,NB195_193⟩:=mn_ BK193 hg;replace BK193:=mk_ BK193 hb;replace HB:=ms_ HB hb;clear hb hg;have nNB195_193:=NB195_193.out;have nNB193_195:=NB193_195.out;replace hz195:=cz5 BK195)|((with_reducible refine gate_callee (f:=128) rfl ?_);refine goesL_ (some 23) rfl rfl Tryz.func128 (by kernel_rfl) rfl #[.agg #[.string ((rd_T39 l0 x17_1).f0),.int .i64 ((rd_T39 l0 x17_1).f1),.slice A194_2 ((rd_T39 l0 x17_1).f2).length c194_2,.slice A194_3 ((rd_T39 l0 x17_1).f3).length c194_3,.slice A194_4 ((rd_T39 l0 x17_1).f4).length c194_4]] rfl mw_ ?_;(with_reducible refine (spec_l2Shape.calls k1 ((rd_T39 l0 x17_1).f0) ((rd_T39 l0 x17_1).f1) _ _ ((rd_T39 l0 x17_1).f2) _ _ ((rd_T39 l0 x17_1).f3) _ _ ((rd_T39 l0 x17_1).f4) t196 _ ?side1 HC194_2.out ?side3 HC194_3.out ?side5 HC194_4.out A9.out).mono ?_);(case side1=>exact Kd.C_below HR194_2.out (mb_ HB));(case side3=>exact Kd.C_below HR194_3.out (mb_ HB));(case side5=>exact Kd.C_below HR194_4.out (mb_ HB));rintro e wx ⟨rfl,hb⟩;refine ⟨_,rfl,?_⟩;replace BK193:=mk_ BK193 hb;replace BK195:=a_ (blk_below (g:=gb195) (o:=.cells #[.string ((rd_T39 l0 x17_1).f0),.int .i64 ((rd_T39 l0 x17_1).f1),.slice A194_2 ((rd_T39 l0 x17_1).f2).length c194_2,.slice A194_3 ((rd_T39 l0 x17_1).f3).length c194_3,.slice A194_4 ((rd_T39 l0 x17_1).f4).length c194_4] 39 (0,0)) (mp_ BK195) hb);replace HB:=ms_ HB hb;(try clear hb);have q22:(x17_1:Int)≤((l0.length:Int):Int):=md_;obtain ⟨i022,hi022,_,hsz22,_⟩:=info_parts info39;have hroom22:l0.length≤c0:=HC0.out;have hC22:Kd.C k39 _ (some ad194) l0.length l0:=HR0.out;have hcut22:=cut_to (P:=Tryz.prog) 23 39 .i64 Tryz.underlying23 hi022 (some ad194) l0.length c0 x17_1 (md_) q22 hroom22;have hr22:=Kd.C_take (m:=(x17_1:Int).toNat) hC22 (by omega);have hy22:y197.length=(x17_1:Int).toNat:=(by rw [Ny197.out,List.length_take];omega);rw [←Ny197.out] at hr22;rw [←hy22] at hcut22;have HR200:=a_ hr22;have HC200:=a_ (show y197.length≤c0 from by omega);clear hr22 hC22 hroom22 hi022 hsz22;have KY22:=a_ hy22;clear hy22;replace q22:=eq_true q22))
    go_loopg [33] k1 (fun kq v33 w'=>∃(x33_2:Int) (x194000_2:Int) (x194001_2:Int) (x194002_2:Int),v33=.int .i64 x33_2∧Aside0 (spec_CheckRules.l1 kq l0 x17_1 l0 (l0.length:Int) x17_1 y197 (y197.length:Int) x33_2 ((rd_T39 l0 x17_1).f0) ((rd_T39 l0 x17_1).f1) ((rd_T39 l0 x17_1).f2) ((rd_T39 l0 x17_1).f3) ((rd_T39 l0 x17_1).f4)=some (r1,r2,r3))∧Aside0 (kq≤k1)∧Aside0 (w'.heap[gb193]?=some (.cells #[.int .i64 x194000_2,.int .i64 x194001_2,.int .i64 x194002_2] 128 (0,0)))∧Aside0 (w'.heap[gb195]?=some (.cells #[.string ((rd_T39 l0 x17_1).f0),.int .i64 ((rd_T39 l0 x17_1).f1),(.slice A194_2 ((rd_T39 l0 x17_1).f2).length c194_2),(.slice A194_3 ((rd_T39 l0 x17_1).f3).length c194_3),(.slice A194_4 ((rd_T39 l0 x17_1).f4).length c194_4)] 39 (0,0)))∧Aside0 (Below w.heap.size w w'))
    case atStart=>exact ⟨(0),(x194000_1),(x194001_1),(x194002_1),mq_,H',⟨Nat.le_refl _⟩,⟨mc_ BK193⟩,⟨mc_ BK195⟩,⟨mb_ HB⟩⟩
    clear H';(try clear c6b0);(try clear c7b0);(try clear c8b0);(try clear c10b0);(try clear c16b0);(try clear c17b0);(try clear c17b1);(try clear q22);(try clear hx194_0);(try clear hx194_1);(try clear hx194_2);(try clear hx194_3);(try clear hx194_4);(try clear p194);(try clear q194);obtain ⟨x33_2,x194000_2,x194001_2,x194002_2,rfl,HA,HK2,BK193,BK195,HB⟩:=hrel;obtain _|k2:=gk
    ·exact absurd HA.out (by simp [spec_CheckRules.l1])
    have H:=HA.out;clear HA;simp only [spec_CheckRules.l1] at H;by_cases c23:x33_2<(y197.length:Int)
    ·rw [if_pos c23] at H;have c23b0:=ct_ c23;clear c23;by_cases c24:0≤x33_2
     case neg=>
      rw [if_neg c24] at H;cases H
     rw [if_pos c24] at H;have c24b0:=ct_ c24;clear c24;by_cases c25:x33_2<(y197.length:Int)
     case neg=>
      rw [if_neg c25] at H;cases H
     rw [if_pos c25] at H;have c25b0:=ct_ c25;clear c25;by_cases c26:((rd_T39 y197 x33_2).f0).toList=((rd_T39 l0 x17_1).f0).toList
     ·rw [if_pos c26] at H;obtain ⟨c26b0,c26b1⟩:=bq_ c26;clear c26;simp only [Option.some.injEq,Prod.mk.injEq] at H;obtain ⟨rfl,rfl,rfl⟩:=H;have p201:0≤(x33_2:Int):=md_
      have q201:x33_2<(y197.length:Int):=md_
      obtain ⟨ad201,A201_2,c201_2,A201_3,c201_3,A201_4,c201_4,e201,hx201_0,hx201_1,hx201_2,hx201_3,hx201_4,hl201_2,hi201_2,hl201_3,hi201_3,hl201_4,hi201_4⟩:=at_T39 HR200.out x33_2 p201 q201;obtain rfl:ad194=ad201:=(by injection e201);replace hx201_0:=mx_ HB hx201_0;replace hx201_1:=mx_ HB hx201_1;replace hx201_2:=mx_ HB hx201_2;replace hx201_3:=mx_ HB hx201_3;replace hx201_4:=mx_ HB hx201_4;have HR201_2:=a_ hi201_2;have HC201_2:=a_ hl201_2;clear hi201_2 hl201_2;have HR201_3:=a_ hi201_3;have HC201_3:=a_ hl201_3;clear hi201_3 hl201_3;have HR201_4:=a_ hi201_4;have HC201_4:=a_ hl201_4;clear hi201_4 hl201_4;replace p201:=eq_true p201;replace q201:=eq_true q201;go_wp2_with (first|((with_reducible refine gate_dst (N:=7) rfl ?_);refine bh_ 7 #[.string (⟨#[]⟩:ByteArray),.int .i64 0,.slice none 0 0,.slice none 0 0,.slice none 0 0] 39 HB ?_;intro gb202 hg wx BK202 GE202 hb;obtain ⟨NB193_202,NB202_193⟩:=mn_ BK193 hg;obtain ⟨NB195_202,NB202_195⟩:=mn_ BK195 hg;replace BK193:=mk_ BK193 hb;replace BK195:=mk_ BK195 hb;replace HB:=ms_ HB hb;clear hb hg;have nNB202_193:=NB202_193.out;have nNB193_202:=NB193_202.out;have nNB202_195:=NB202_195.out;have nNB195_202:=NB195_202.out;replace hz202:=cz5 BK202;have nNB195_193:=NB195_193.out;have nNB193_195:=NB193_195.out;replace hz195:=cz5 BK195;replace hz193:=cz3 BK193));refine bodyPost_ret (results_cell_row rfl _ _ gb193 128 #[.int .i64 2,.int .i64 x17_1,.int .i64 0] (0,0) _ rfl (mp_ BK193) Tryz.underlying128 rfl (by kernel_rfl)) rfl ?_;exact ⟨me_,mb_ HB⟩
     ·rw [if_neg c26] at H;obtain ⟨c26b0,c26b1⟩:=bn_ c26;have H':=a_ H;clear H;have p201:0≤(x33_2:Int):=md_
      have q201:x33_2<(y197.length:Int):=md_
      obtain ⟨ad201,A201_2,c201_2,A201_3,c201_3,A201_4,c201_4,e201,hx201_0,hx201_1,hx201_2,hx201_3,hx201_4,hl201_2,hi201_2,hl201_3,hi201_3,hl201_4,hi201_4⟩:=at_T39 HR200.out x33_2 p201 q201;obtain rfl:ad194=ad201:=(by injection e201);replace hx201_0:=mx_ HB hx201_0;replace hx201_1:=mx_ HB hx201_1;replace hx201_2:=mx_ HB hx201_2;replace hx201_3:=mx_ HB hx201_3;replace hx201_4:=mx_ HB hx201_4;have HR201_2:=a_ hi201_2;have HC201_2:=a_ hl201_2;clear hi201_2 hl201_2;have HR201_3:=a_ hi201_3;have HC201_3:=a_ hl201_3;clear hi201_3 hl201_3;have HR201_4:=a_ hi201_4;have HC201_4:=a_ hl201_4;clear hi201_4 hl201_4;replace p201:=eq_true p201;replace q201:=eq_true q201;go_wp2_with (first|((with_reducible refine gate_dst (N:=7) rfl ?_);refine bh_ 7 #[.string (⟨#[]⟩:ByteArray),.int .i64 0,.slice none 0 0,.slice none 0 0,.slice none 0 0] 39 HB ?_;intro gb202 hg wx BK202 GE202 hb;obtain ⟨NB193_202,NB202_193⟩:=mn_ BK193 hg;obtain ⟨NB195_202,NB202_195⟩:=mn_ BK195 hg;replace BK193:=mk_ BK193 hb;replace BK195:=mk_ BK195 hb;replace HB:=ms_ HB hb;clear hb hg;have nNB202_193:=NB202_193.out;have nNB193_202:=NB193_202.out;have nNB202_195:=NB202_195.out;have nNB195_202:=NB195_202.out;replace hz202:=cz5 BK202;have nNB195_193:=NB195_193.out;have nNB193_195:=NB193_195.out;replace hz195:=cz5 BK195));go_roundg k2
      case measure=>
       have:=HK1.out
       have:=HK2.out
       omega
      case rel=>exact ⟨(wrap64 (x33_2+1)),(x194000_2),(x194001_2),(x194002_2),mq_,H',⟨by have:=HK1.out;have:=HK2.out;omega⟩,⟨mc_ BK193⟩,⟨mc_ BK195⟩,⟨mb_ HB⟩⟩
    ·rw [if_neg c23] at H;have c23b0:=cf_ c23;clear c23;obtain ⟨t203,A40,H⟩:=ob_ H;have HC41:=a_ H;clear H;have nNB195_193:=NB195_193.out;have nNB193_195:=NB193_195.out;replace hz195:=cz5 BK195;go_upto_region 16 with (first|((with_reducible refine gate_callee (f:=129) rfl ?_);refine goesL_ (some 46) rfl rfl Tryz.func129 (by kernel_rfl) rfl #[.agg #[.string ((rd_T39 l0 x17_1).f0),.int .i64 ((rd_T39 l0 x17_1).f1),.slice A194_2 ((rd_T39 l0 x17_1).f2).length c194_2,.slice A194_3 ((rd_T39 l0 x17_1).f3).length c194_3,.slice A194_4 ((rd_T39 l0 x17_1).f4).length c194_4]] rfl mw_ ?_;(with_reducible refine (spec_l2Positive.calls k2 ((rd_T39 l0 x17_1).f0) ((rd_T39 l0 x17_1).f1) _ _ ((rd_T39 l0 x17_1).f2) _ _ ((rd_T39 l0 x17_1).f3) _ _ ((rd_T39 l0 x17_1).f4) t203 _ ?side1 HC194_2.out ?side3 HC194_3.out ?side5 HC194_4.out A40.out).mono ?_);(case side1=>exact mt_ HR194_2 HB);(case side3=>exact mt_ HR194_3 HB);(case side5=>exact mt_ HR194_4 HB);rintro e w44 ⟨rfl,hb⟩;refine ⟨_,rfl,?_⟩;replace BK193:=mk_ BK193 hb;replace BK195:=mk_ BK195 hb;replace HB:=ms_ HB hb;(try clear hb)));(try simp only [Act.put,List.setIfInBounds_toArray,List.set_cons_zero,List.set_cons_succ]);go_cut [52] (fun v52 wc=>∃(kq:Nat) (x52_40:Bool),v52=.bool x52_40∧Aside0 (spec_CheckRules.j2 kq l0 x17_1 t203 l0 (l0.length:Int) x17_1 x52_40 ((rd_T39 l0 x17_1).f0) ((rd_T39 l0 x17_1).f1) ((rd_T39 l0 x17_1).f2) ((rd_T39 l0 x17_1).f3) ((rd_T39 l0 x17_1).f4)=some (r1,r2,r3))∧Aside0 (kq≤k2)∧Aside0 (wc.heap[gb193]?=some (.cells #[.int .i64 x194000_2,.int .i64 x194001_2,.int .i64 x194002_2] 128 (0,0)))∧Aside0 (wc.heap[gb195]?=some (.cells #[.string ((rd_T39 l0 x17_1).f0),.int .i64 ((rd_T39 l0 x17_1).f1),(.slice A194_2 ((rd_T39 l0 x17_1).f2).length c194_2),(.slice A194_3 ((rd_T39 l0 x17_1).f3).length c194_3),(.slice A194_4 ((rd_T39 l0 x17_1).f4).length c194_4)] 39 (0,0)))∧Aside0 (Below w.heap.size w wc))
     case first=>
      have H:=HC41.out;clear HC41;by_cases c45:t203<1
      ·rw [if_pos c45] at H;have c45b0:=ct_ c45;clear c45;(first|rw [c45b0]|(simp only [i64_w,i32_w];rw [c45b0])|skip);have H':=a_ H;clear H;go_wp2;go_meet
       case rel=>exact ⟨_,(true),mq_,H',⟨by have:=HK1.out;have:=HK2.out;first|omega|exact Nat.le_refl _⟩,⟨mc_ BK193⟩,⟨mc_ BK195⟩,⟨mb_ HB⟩⟩
      ·rw [if_neg c45] at H;have c45b0:=cf_ c45;clear c45;(first|rw [c45b0]|(simp only [i64_w,i32_w];rw [c45b0])|skip);have H':=a_ H;clear H;go_wp2;go_meet
       case rel=>exact ⟨_,(decide (t203>3)),mq_,H',⟨by have:=HK1.out;have:=HK2.out;first|omega|exact Nat.le_refl _⟩,⟨mc_ BK193⟩,⟨mc_ BK195⟩,⟨mb_ HB⟩⟩
     clear HC41;(try clear c23b0);obtain ⟨kq,x52_40,rfl,HA,HJ40,BK193,BK195,HB⟩:=hcut;obtain _|kj40:=kq
     ·exact absurd HA.out (by simp [spec_CheckRules.j2])
     have H:=HA.out;clear HA;simp only [spec_CheckRules.j2] at H;by_cases c46:x52_40=true
     ·subst c46;rw [if_pos rfl] at H;simp only [Option.some.injEq,Prod.mk.injEq] at H;obtain ⟨rfl,rfl,rfl⟩:=H;have nNB193_195:=NB193_195.out;have nNB195_193:=NB195_193.out;replace hz193:=cz3 BK193;go_wp2;refine bodyPost_ret (results_cell_row rfl _ _ gb193 128 #[.int .i64 3,.int .i64 x17_1,.int .i64 0] (0,0) _ rfl (mp_ BK193) Tryz.underlying128 rfl (by kernel_rfl)) rfl ?_;exact ⟨me_,mb_ HB⟩
     ·replace c46:=Bool.eq_false_iff.mpr c46;subst c46;rw [if_neg (show ¬(false=true) by decide)] at H;obtain ⟨t204,A49,H⟩:=ob_ H;by_cases c50:t204≥0
      ·rw [if_pos c50] at H;have c50b0:=ct_ c50;clear c50;simp only [Option.some.injEq,Prod.mk.injEq] at H;obtain ⟨rfl,rfl,rfl⟩:=H;have nNB195_193:=NB195_193.out;have nNB193_195:=NB193_195.out;replace hz195:=cz5 BK195;go_wp2_with (first|((with_reducible refine gate_callee (f:=130) rfl ?_);refine goesL_ (some 56) rfl rfl Tryz.func130 (by kernel_rfl) rfl #[.agg #[.string ((rd_T39 l0 x17_1).f0),.int .i64 ((rd_T39 l0 x17_1).f1),.slice A194_2 ((rd_T39 l0 x17_1).f2).length c194_2,.slice A194_3 ((rd_T39 l0 x17_1).f3).length c194_3,.slice A194_4 ((rd_T39 l0 x17_1).f4).length c194_4]] rfl mw_ ?_;(with_reducible refine (spec_l2Scope.calls kj40 ((rd_T39 l0 x17_1).f0) ((rd_T39 l0 x17_1).f1) _ _ ((rd_T39 l0 x17_1).f2) _ _ ((rd_T39 l0 x17_1).f3) _ _ ((rd_T39 l0 x17_1).f4) t204 _ ?side1 HC194_2.out ?side3 HC194_3.out ?side5 HC194_4.out A49.out).mono ?_);(case side1=>exact mt_ HR194_2 HB);(case side3=>exact mt_ HR194_3 HB);(case side5=>exact mt_ HR194_4 HB);rintro e wx ⟨rfl,hb⟩;refine ⟨_,rfl,?_⟩;replace BK193:=mk_ BK193 hb;replace BK195:=mk_ BK195 hb;replace HB:=ms_ HB hb;(try clear hb);replace hz193:=cz3 BK193));refine bodyPost_ret (results_cell_row rfl _ _ gb193 128 #[.int .i64 4,.int .i64 x17_1,.int .i64 t204] (0,0) _ rfl (mp_ BK193) Tryz.underlying128 rfl (by kernel_rfl)) rfl ?_;exact ⟨me_,mb_ HB⟩
      ·rw [if_neg c50] at H;have c50b0:=cf_ c50;clear c50;have H':=a_ H;clear H;have nNB195_193:=NB195_193.out;have nNB193_195:=NB193_195.out;replace hz195:=cz5 BK195;go_wp2_with (first|((with_reducible refine gate_callee (f:=130) rfl ?_);refine goesL_ (some 56) rfl rfl Tryz.func130 (by kernel_rfl) rfl #[.agg #[.string ((rd_T39 l0 x17_1).f0),.int .i64 ((rd_T39 l0 x17_1).f1),.slice A194_2 ((rd_T39 l0 x17_1).f2).length c194_2,.slice A194_3 ((rd_T39 l0 x17_1).f3).length c194_3,.slice A194_4 ((rd_T39 l0 x17_1).f4).length c194_4]] rfl mw_ ?_;(with_reducible refine (spec_l2Scope.calls kj40 ((rd_T39 l0 x17_1).f0) ((rd_T39 l0 x17_1).f1) _ _ ((rd_T39 l0 x17_1).f2) _ _ ((rd_T39 l0 x17_1).f3) _ _ ((rd_T39 l0 x17_1).f4) t204 _ ?side1 HC194_2.out ?side3 HC194_3.out ?side5 HC194_4.out A49.out).mono ?_);(case side1=>exact mt_ HR194_2 HB);(case side3=>exact mt_ HR194_3 HB);(case side5=>exact mt_ HR194_4 HB);rintro e wx ⟨rfl,hb⟩;refine ⟨_,rfl,?_⟩;replace BK193:=mk_ BK193 hb;replace BK195:=mk_ BK195 hb;replace HB:=ms_ HB hb;(try clear hb);replace hz195:=cz5 BK195));go_loopg [65] kj40 (fun kq v65 w'=>∃(x65_4:Int) (x194000_4:Int) (x194001_4:Int) (x194002_4:Int),v65=.int .i64 x65_4∧Aside0 (spec_CheckRules.l2 kq l0 x17_1 t203 l0 (l0.length:Int) x17_1 ((rd_T39 l0 x17_1).f4) (((rd_T39 l0 x17_1).f4).length:Int) x65_4 ((rd_T39 l0 x17_1).f0) ((rd_T39 l0 x17_1).f1) ((rd_T39 l0 x17_1).f2) ((rd_T39 l0 x17_1).f3) ((rd_T39 l0 x17_1).f4)=some (r1,r2,r3))∧Aside0 (kq≤kj40)∧Aside0 (w'.heap[gb193]?=some (.cells #[.int .i64 x194000_4,.int .i64 x194001_4,.int .i64 x194002_4] 128 (0,0)))∧Aside0 (w'.heap[gb195]?=some (.cells #[.string ((rd_T39 l0 x17_1).f0),.int .i64 ((rd_T39 l0 x17_1).f1),(.slice A194_2 ((rd_T39 l0 x17_1).f2).length c194_2),(.slice A194_3 ((rd_T39 l0 x17_1).f3).length c194_3),(.slice A194_4 ((rd_T39 l0 x17_1).f4).length c194_4)] 39 (0,0)))∧Aside0 (Below w.heap.size w w'))
       case atStart=>exact ⟨(0),(x194000_2),(x194001_2),(x194002_2),mq_,H',⟨Nat.le_refl _⟩,⟨mc_ BK193⟩,⟨mc_ BK195⟩,⟨mb_ HB⟩⟩
       clear H';(try clear c46);(try clear c50b0);obtain ⟨x65_4,x194000_4,x194001_4,x194002_4,rfl,HA,HK4,BK193,BK195,HB⟩:=hrel;obtain _|k4:=gk
       ·exact absurd HA.out (by simp [spec_CheckRules.l2])
       have H:=HA.out;clear HA;simp only [spec_CheckRules.l2] at H;by_cases c59:x65_4<(((rd_T39 l0 x17_1).f4).length:Int)
       ·rw [if_pos c59] at H;have c59b0:=ct_ c59;clear c59;by_cases c60:0≤x65_4
        case neg=>
         rw [if_neg c60] at H;cases H
        rw [if_pos c60] at H;have c60b0:=ct_ c60;clear c60;by_cases c61:x65_4<(((rd_T39 l0 x17_1).f4).length:Int)
        case neg=>
         rw [if_neg c61] at H;cases H
        rw [if_pos c61] at H;have c61b0:=ct_ c61;clear c61;by_cases c62:((rd_T98 ((rd_T39 l0 x17_1).f4) x65_4).f0)=2
        ·rw [if_pos c62] at H;obtain ⟨c62b0,c62b1⟩:=bq_ c62;clear c62;by_cases c63:((rd_T98 ((rd_T39 l0 x17_1).f4) x65_4).f1)<1
         ·rw [if_pos c63] at H;have c63b0:=ct_ c63;clear c63;exact u781_0
         ·rw [if_neg c63] at H;have c63b0:=cf_ c63;clear c63;by_cases c71:((rd_T98 ((rd_T39 l0 x17_1).f4) x65_4).f1)>t203
          ·rw [if_pos c71] at H;have c71b0:=ct_ c71;clear c71;exact u781_0
          ·rw [if_neg c71] at H;have c71b0:=cf_ c71;clear c71;exact u781_1
        ·rw [if_neg c62] at H;obtain ⟨c62b0,c62b1⟩:=bn_ c62;by_cases c83:((rd_T98 ((rd_T39 l0 x17_1).f4) x65_4).f0)=3
         ·rw [if_pos c83] at H;obtain ⟨c83b0,c83b1⟩:=bq_ c83;clear c83;by_cases c84:((rd_T98 ((rd_T39 l0 x17_1).f4) x65_4).f1)<1
          ·rw [if_pos c84] at H;have c84b0:=ct_ c84;clear c84;exact u781_0
          ·rw [if_neg c84] at H;have c84b0:=cf_ c84;clear c84;by_cases c92:((rd_T98 ((rd_T39 l0 x17_1).f4) x65_4).f1)>t203
           ·rw [if_pos c92] at H;have c92b0:=ct_ c92;clear c92;exact u781_0
           ·rw [if_neg c92] at H;have c92b0:=cf_ c92;clear c92;exact u781_1
         ·rw [if_neg c83] at H;obtain ⟨c83b0,c83b1⟩:=bn_ c83;exact u781_1
       ·rw [if_neg c59] at H;have c59b0:=cf_ c59;clear c59;have H':=a_ H;clear H;go_wp2;go_roundg k4
        case measure=>
         have:=HK1.out
         have:=HK2.out
         have:=HJ40.out
         have:=HK4.out
         omega
        case rel=>exact ⟨(wrap64 (x17_1+1)),(x194000_4),(x194001_4),(x194002_4),mq_,H',⟨by have:=HK1.out;have:=HK2.out;have:=HJ40.out;have:=HK4.out;omega⟩,⟨mc_ BK193⟩,⟨mb_ HB⟩⟩
  ·rw [if_neg c6] at H;have c6b0:=cf_ c6;clear c6;simp only [Option.some.injEq,Prod.mk.injEq] at H;obtain ⟨rfl,rfl,rfl⟩:=H;replace hz193:=cz3 BK193;go_wp2;refine bodyPost_ret (results_cell_row rfl _ _ gb193 128 #[.int .i64 0,.int .i64 0,.int .i64 0] (0,0) _ rfl (mp_ BK193) Tryz.underlying128 rfl (by kernel_rfl)) rfl ?_;exact ⟨me_,mb_ HB⟩
end Go.Proofs.YtahambloheoebaaGreatDoor.P
