/- The row of the law FnExactAgenda: for every input the call returns true, and each argument reads behind it as it read before; no condition of ours. -/
import Derived.Test.YtejjlkbbnhpbdaaGreatProg
import Derived.Below
import Derived.Deep.Draws
import Derived.Deep.AppendLies
import Derived.Maps.AppendAt
import Derived.OwnWalk
import Derived.Laws.BytesArg
import Derived.Laws.MakeOwn
import Derived.Laws.OwnMore
import Derived.Deep.OwnRows
import Derived.Tactics
import Derived.Lib.ConvBytes
import Derived.Laws.Slices
import Derived.WalkKit
import Derived.KernelRfl
import Derived.RowKit3
import Derived.Deep.LoopGhost
import Derived.Deep.QuietTactic
import Derived.BigQuiet
import Derived.WideLaws
import Derived.Deep.DeepCutAuto
import Derived.Deep.CutBlock
import Derived.Deep.RegionHeld3
import Derived.Laws.Rows
import Derived.Lib.AppendStr
import Derived.ArgAppend
import Derived.Laws.IdiomCopy
import Derived.OrdersHeld
import Derived.Laws.BitsLemmas
import Derived.RowKit
import Derived.Shelf.Abstract
import Derived.Maps.RangeWalk
import Derived.Laws.CopyRow
import Derived.Laws.CopyOwn
import Derived.OneCell
import Derived.RangeFuncBox
import Derived.IntWalk
import Derived.Test.YtejjlkbbnhpbdaaGreatQAg3
namespace Go.Proofs.YtejjlkbbnhpbdaaGreat.P
open Go.Proofs.YtejjlkbbnhpbdaaGreatX
open Go.RowKit Go.Proofs.YtejjlkbbnhpbdaaGreatW.PrintWords Go.Proofs.YtejjlkbbnhpbdaaGreatW.PrintLast Go.Proofs.YtejjlkbbnhpbdaaGreatW.PrintMore
attribute [local go_sem] max2_int min2_int max_two min_two max_three min_three max_four min_four
set_option linter.unusedVariables false
set_option linter.unusedSimpArgs false
def errW:Option Int→Value
 | none=>.nilIface
 | some c=>.iface 0 (.int .i64 c)
theorem errW_none:errW none=.nilIface:=rfl
theorem errW_some (c:Int):errW (some c)=.iface 0 (.int .i64 c):=rfl
theorem info3:(Tryz.prog.info? 3).map (fun i=>(i.zero,i.size,i.bytes))=some (some (.int .i64 0),1,8):=by kernel_rfl
theorem info9:(Tryz.prog.info? 9).map (fun i=>(i.zero,i.size,i.bytes))=some (some (.string ⟨#[]⟩),1,16):=by kernel_rfl
theorem info31:(Tryz.prog.info? 31).map (fun i=>(i.zero,i.size,i.bytes))=some (some (.agg #[(.int .i64 0),(.slice none 0 0)]),2,32):=by kernel_rfl
theorem info58:(Tryz.prog.info? 58).map (fun i=>(i.zero,i.size,i.bytes))=some (some (.agg #[(.string ⟨#[]⟩),(.int .i64 0),(.slice none 0 0),(.slice none 0 0),(.slice none 0 0)]),5,96):=by kernel_rfl
theorem info101:(Tryz.prog.info? 101).map (fun i=>(i.zero,i.size,i.bytes))=some (some (.agg #[(.bool false),(.string ⟨#[]⟩),(.slice none 0 0)]),3,48):=by kernel_rfl
theorem info106:(Tryz.prog.info? 106).map (fun i=>(i.zero,i.size,i.bytes))=some (some (.agg #[(.int .i64 0),(.int .u8 0),(.string ⟨#[]⟩),(.int .i64 0),(.int .i64 0),(.string ⟨#[]⟩),(.int .i64 0),(.int .i64 0)]),8,80):=by kernel_rfl
theorem info108:(Tryz.prog.info? 108).map (fun i=>(i.zero,i.size,i.bytes))=some (some (.agg #[(.int .i64 0),(.int .i64 0),(.string ⟨#[]⟩),(.slice none 0 0)]),4,56):=by kernel_rfl
theorem info134:(Tryz.prog.info? 134).map (fun i=>(i.zero,i.size,i.bytes))=some (some (.agg #[(.int .i64 0),(.int .i64 0),(.string ⟨#[]⟩),(.int .i64 0),(.int .i64 0),(.string ⟨#[]⟩)]),6,64):=by kernel_rfl
structure S114 where
 f0:Int
 f1:Int
 f2:ByteArray
def z114:S114:=⟨(0:Int),(0:Int),(⟨#[]⟩:ByteArray)⟩
def k114:Kd S114:=Kd.iso (Kd.pair (Kd.int .i64) (Kd.pair (Kd.int .i64) Kd.string)) (fun x:S114=>(x.f0,x.f1,x.f2))
theorem k114_open {w:World} {x:S114} {cs:List Value} (h:k114.K w x cs):cs=[.int .i64 x.f0,.int .i64 x.f1,.string x.f2]:=by
 obtain ⟨_,_,rfl,rfl,⟨_,_,rfl,rfl,rfl⟩⟩:=h;exact rfl
structure S160 where
 f0:Int
 f1:Int
 f2:ByteArray
 f3:S114
def z160:S160:=⟨(0:Int),(0:Int),(⟨#[]⟩:ByteArray),z114⟩
def k160:Kd S160:=Kd.iso (Kd.pair (Kd.int .i64) (Kd.pair (Kd.int .i64) (Kd.pair Kd.string k114))) (fun x:S160=>(x.f0,x.f1,x.f2,x.f3))
theorem k160_open {w:World} {x:S160} {cs:List Value} (h:k160.K w x cs):cs=[.int .i64 x.f0,.int .i64 x.f1,.string x.f2,.int .i64 x.f3.f0,.int .i64 x.f3.f1,.string x.f3.f2]:=by
 obtain ⟨_,_,rfl,rfl,⟨_,_,rfl,rfl,⟨_,_,rfl,rfl,s3⟩⟩⟩:=h;obtain rfl:=k114_open s3;exact rfl
def rd_T160 (xs:List S160) (i:Int):S160:=xs.getD i.toNat z160
theorem at_T160 {w:World} {A:Option Addr} {n:Nat} {xs:List S160} (h:Kd.C k160 w A n xs) (i:Int) (h0:0≤i) (h1:i<n):∃ad ,A=some ad∧w.cell? (ad.add (i.toNat*6))=some (.int .i64 (rd_T160 xs i).f0)∧w.cell? ⟨(ad.add (i.toNat*6)).block,(ad.add (i.toNat*6)).off+1,none⟩=some (.int .i64 (rd_T160 xs i).f1)∧w.cell? ⟨(ad.add (i.toNat*6)).block,(ad.add (i.toNat*6)).off+2,none⟩=some (.string (rd_T160 xs i).f2)∧w.cell? ⟨(ad.add (i.toNat*6)).block,(ad.add (i.toNat*6)).off+3,none⟩=some (.int .i64 (rd_T160 xs i).f3.f0)∧w.cell? ⟨(ad.add (i.toNat*6)).block,(ad.add (i.toNat*6)).off+4,none⟩=some (.int .i64 (rd_T160 xs i).f3.f1)∧w.cell? ⟨(ad.add (i.toNat*6)).block,(ad.add (i.toNat*6)).off+5,none⟩=some (.string (rd_T160 xs i).f3.f2):=by
 obtain ⟨ad,c,e,_,hK,hc0⟩:=Kd.C_get h z160 i h0 h1;have hc:∀j u,c[j]?=some u→w.cell? (ad.add (i.toNat*6+j))=some u:=hc0
 obtain rfl:=k160_open hK;exact ⟨ad,e,hc 0 _ rfl,by rw [←add_field _ _ 1 (by omega)];exact hc 1 _ rfl,by rw [←add_field _ _ 2 (by omega)];exact hc 2 _ rfl,by rw [←add_field _ _ 3 (by omega)];exact hc 3 _ rfl,by rw [←add_field _ _ 4 (by omega)];exact hc 4 _ rfl,by rw [←add_field _ _ 5 (by omega)];exact hc 5 _ rfl⟩
structure S112 where
 f0:Bool
 f1:ByteArray
 f2:(List S160)
def z112:S112:=⟨false,(⟨#[]⟩:ByteArray),([]:List S160)⟩
def k112:Kd S112:=Kd.iso (Kd.pair Kd.bool (Kd.pair Kd.string (Kd.slice 160 k160))) (fun x:S112=>(x.f0,x.f1,x.f2))
theorem k112_open {w:World} {x:S112} {cs:List Value} (h:k112.K w x cs):∃A2 c2,cs=[.bool x.f0,.string x.f1,.slice A2 x.f2.length c2]∧x.f2.length≤c2∧k160.C w A2 x.f2.length x.f2:=by
 obtain ⟨_,_,rfl,rfl,⟨_,_,rfl,rfl,⟨A2,c2,rfl,l2,g2⟩⟩⟩:=h;exact ⟨A2,c2,rfl,l2,g2⟩
def rd_T112 (xs:List S112) (i:Int):S112:=xs.getD i.toNat z112
theorem at_T112 {w:World} {A:Option Addr} {n:Nat} {xs:List S112} (h:Kd.C k112 w A n xs) (i:Int) (h0:0≤i) (h1:i<n):∃ad A2 c2,A=some ad∧w.cell? (ad.add (i.toNat*3))=some (.bool (rd_T112 xs i).f0)∧w.cell? ⟨(ad.add (i.toNat*3)).block,(ad.add (i.toNat*3)).off+1,none⟩=some (.string (rd_T112 xs i).f1)∧w.cell? ⟨(ad.add (i.toNat*3)).block,(ad.add (i.toNat*3)).off+2,none⟩=some (.slice A2 (rd_T112 xs i).f2.length c2)∧(rd_T112 xs i).f2.length≤c2∧k160.C w A2 (rd_T112 xs i).f2.length (rd_T112 xs i).f2:=by
 obtain ⟨ad,c,e,_,hK,hc0⟩:=Kd.C_get h z112 i h0 h1;have hc:∀j u,c[j]?=some u→w.cell? (ad.add (i.toNat*3+j))=some u:=hc0
 obtain ⟨A2,c2,rfl,l2,g2⟩:=k112_open hK;exact ⟨ad,A2,c2,e,hc 0 _ rfl,by rw [←add_field _ _ 1 (by omega)];exact hc 1 _ rfl,by rw [←add_field _ _ 2 (by omega)];exact hc 2 _ rfl,l2,g2⟩
structure S116 where
 f0:Int
 f1:Int
 f2:ByteArray
 f3:S114
 f4:Int
 f5:Int
def z116:S116:=⟨(0:Int),(0:Int),(⟨#[]⟩:ByteArray),z114,(0:Int),(0:Int)⟩
def k116:Kd S116:=Kd.iso (Kd.pair (Kd.int .i64) (Kd.pair (Kd.int .u8) (Kd.pair Kd.string (Kd.pair k114 (Kd.pair (Kd.int .i64) (Kd.int .i64)))))) (fun x:S116=>(x.f0,x.f1,x.f2,x.f3,x.f4,x.f5))
theorem k116_open {w:World} {x:S116} {cs:List Value} (h:k116.K w x cs):cs=[.int .i64 x.f0,.int .u8 x.f1,.string x.f2,.int .i64 x.f3.f0,.int .i64 x.f3.f1,.string x.f3.f2,.int .i64 x.f4,.int .i64 x.f5]:=by
 obtain ⟨_,_,rfl,rfl,⟨_,_,rfl,rfl,⟨_,_,rfl,rfl,⟨_,_,rfl,s3,⟨_,_,rfl,rfl,rfl⟩⟩⟩⟩⟩:=h;obtain rfl:=k114_open s3;exact rfl
def rd_T116 (xs:List S116) (i:Int):S116:=xs.getD i.toNat z116
theorem at_T116 {w:World} {A:Option Addr} {n:Nat} {xs:List S116} (h:Kd.C k116 w A n xs) (i:Int) (h0:0≤i) (h1:i<n):∃ad ,A=some ad∧w.cell? (ad.add (i.toNat*8))=some (.int .i64 (rd_T116 xs i).f0)∧w.cell? ⟨(ad.add (i.toNat*8)).block,(ad.add (i.toNat*8)).off+1,none⟩=some (.int .u8 (rd_T116 xs i).f1)∧w.cell? ⟨(ad.add (i.toNat*8)).block,(ad.add (i.toNat*8)).off+2,none⟩=some (.string (rd_T116 xs i).f2)∧w.cell? ⟨(ad.add (i.toNat*8)).block,(ad.add (i.toNat*8)).off+3,none⟩=some (.int .i64 (rd_T116 xs i).f3.f0)∧w.cell? ⟨(ad.add (i.toNat*8)).block,(ad.add (i.toNat*8)).off+4,none⟩=some (.int .i64 (rd_T116 xs i).f3.f1)∧w.cell? ⟨(ad.add (i.toNat*8)).block,(ad.add (i.toNat*8)).off+5,none⟩=some (.string (rd_T116 xs i).f3.f2)∧w.cell? ⟨(ad.add (i.toNat*8)).block,(ad.add (i.toNat*8)).off+6,none⟩=some (.int .i64 (rd_T116 xs i).f4)∧w.cell? ⟨(ad.add (i.toNat*8)).block,(ad.add (i.toNat*8)).off+7,none⟩=some (.int .i64 (rd_T116 xs i).f5):=by
 obtain ⟨ad,c,e,_,hK,hc0⟩:=Kd.C_get h z116 i h0 h1;have hc:∀j u,c[j]?=some u→w.cell? (ad.add (i.toNat*8+j))=some u:=hc0
 obtain rfl:=k116_open hK;exact ⟨ad,e,hc 0 _ rfl,by rw [←add_field _ _ 1 (by omega)];exact hc 1 _ rfl,by rw [←add_field _ _ 2 (by omega)];exact hc 2 _ rfl,by rw [←add_field _ _ 3 (by omega)];exact hc 3 _ rfl,by rw [←add_field _ _ 4 (by omega)];exact hc 4 _ rfl,by rw [←add_field _ _ 5 (by omega)];exact hc 5 _ rfl,by rw [←add_field _ _ 6 (by omega)];exact hc 6 _ rfl,by rw [←add_field _ _ 7 (by omega)];exact hc 7 _ rfl⟩
structure S118 where
 f0:Int
 f1:Int
 f2:ByteArray
 f3:(List Int)
def z118:S118:=⟨(0:Int),(0:Int),(⟨#[]⟩:ByteArray),([]:List Int)⟩
def k118:Kd S118:=Kd.iso (Kd.pair (Kd.int .i64) (Kd.pair (Kd.int .i64) (Kd.pair Kd.string (Kd.slice 3 (Kd.int .i64))))) (fun x:S118=>(x.f0,x.f1,x.f2,x.f3))
theorem k118_open {w:World} {x:S118} {cs:List Value} (h:k118.K w x cs):∃A3 c3,cs=[.int .i64 x.f0,.int .i64 x.f1,.string x.f2,.slice A3 x.f3.length c3]∧x.f3.length≤c3∧(Kd.int .i64).C w A3 x.f3.length x.f3:=by
 obtain ⟨_,_,rfl,rfl,⟨_,_,rfl,rfl,⟨_,_,rfl,rfl,⟨A3,c3,rfl,l3,g3⟩⟩⟩⟩:=h;exact ⟨A3,c3,rfl,l3,g3⟩
def rd_T118 (xs:List S118) (i:Int):S118:=xs.getD i.toNat z118
theorem at_T118 {w:World} {A:Option Addr} {n:Nat} {xs:List S118} (h:Kd.C k118 w A n xs) (i:Int) (h0:0≤i) (h1:i<n):∃ad A3 c3,A=some ad∧w.cell? (ad.add (i.toNat*4))=some (.int .i64 (rd_T118 xs i).f0)∧w.cell? ⟨(ad.add (i.toNat*4)).block,(ad.add (i.toNat*4)).off+1,none⟩=some (.int .i64 (rd_T118 xs i).f1)∧w.cell? ⟨(ad.add (i.toNat*4)).block,(ad.add (i.toNat*4)).off+2,none⟩=some (.string (rd_T118 xs i).f2)∧w.cell? ⟨(ad.add (i.toNat*4)).block,(ad.add (i.toNat*4)).off+3,none⟩=some (.slice A3 (rd_T118 xs i).f3.length c3)∧(rd_T118 xs i).f3.length≤c3∧(Kd.int .i64).C w A3 (rd_T118 xs i).f3.length (rd_T118 xs i).f3:=by
 obtain ⟨ad,c,e,_,hK,hc0⟩:=Kd.C_get h z118 i h0 h1;have hc:∀j u,c[j]?=some u→w.cell? (ad.add (i.toNat*4+j))=some u:=hc0
 obtain ⟨A3,c3,rfl,l3,g3⟩:=k118_open hK;exact ⟨ad,A3,c3,e,hc 0 _ rfl,by rw [←add_field _ _ 1 (by omega)];exact hc 1 _ rfl,by rw [←add_field _ _ 2 (by omega)];exact hc 2 _ rfl,by rw [←add_field _ _ 3 (by omega)];exact hc 3 _ rfl,l3,g3⟩
structure S50 where
 f0:ByteArray
 f1:Int
 f2:(List S112)
 f3:(List S116)
 f4:(List S118)
def z50:S50:=⟨(⟨#[]⟩:ByteArray),(0:Int),([]:List S112),([]:List S116),([]:List S118)⟩
def k50:Kd S50:=Kd.iso (Kd.pair Kd.string (Kd.pair (Kd.int .i64) (Kd.pair (Kd.slice 112 k112) (Kd.pair (Kd.slice 116 k116) (Kd.slice 118 k118))))) (fun x:S50=>(x.f0,x.f1,x.f2,x.f3,x.f4))
theorem k50_open {w:World} {x:S50} {cs:List Value} (h:k50.K w x cs):∃A2 c2 A3 c3 A4 c4,cs=[.string x.f0,.int .i64 x.f1,.slice A2 x.f2.length c2,.slice A3 x.f3.length c3,.slice A4 x.f4.length c4]∧x.f2.length≤c2∧k112.C w A2 x.f2.length x.f2∧x.f3.length≤c3∧k116.C w A3 x.f3.length x.f3∧x.f4.length≤c4∧k118.C w A4 x.f4.length x.f4:=by
 obtain ⟨_,_,rfl,rfl,⟨_,_,rfl,rfl,⟨_,_,rfl,⟨A2,c2,rfl,l2,g2⟩,⟨_,_,rfl,⟨A3,c3,rfl,l3,g3⟩,⟨A4,c4,rfl,l4,g4⟩⟩⟩⟩⟩:=h;exact ⟨A2,c2,A3,c3,A4,c4,rfl,l2,g2,l3,g3,l4,g4⟩
def rd_T50 (xs:List S50) (i:Int):S50:=xs.getD i.toNat z50
theorem at_T50 {w:World} {A:Option Addr} {n:Nat} {xs:List S50} (h:Kd.C k50 w A n xs) (i:Int) (h0:0≤i) (h1:i<n):∃ad A2 c2 A3 c3 A4 c4,A=some ad∧w.cell? (ad.add (i.toNat*5))=some (.string (rd_T50 xs i).f0)∧w.cell? ⟨(ad.add (i.toNat*5)).block,(ad.add (i.toNat*5)).off+1,none⟩=some (.int .i64 (rd_T50 xs i).f1)∧w.cell? ⟨(ad.add (i.toNat*5)).block,(ad.add (i.toNat*5)).off+2,none⟩=some (.slice A2 (rd_T50 xs i).f2.length c2)∧w.cell? ⟨(ad.add (i.toNat*5)).block,(ad.add (i.toNat*5)).off+3,none⟩=some (.slice A3 (rd_T50 xs i).f3.length c3)∧w.cell? ⟨(ad.add (i.toNat*5)).block,(ad.add (i.toNat*5)).off+4,none⟩=some (.slice A4 (rd_T50 xs i).f4.length c4)∧(rd_T50 xs i).f2.length≤c2∧k112.C w A2 (rd_T50 xs i).f2.length (rd_T50 xs i).f2∧(rd_T50 xs i).f3.length≤c3∧k116.C w A3 (rd_T50 xs i).f3.length (rd_T50 xs i).f3∧(rd_T50 xs i).f4.length≤c4∧k118.C w A4 (rd_T50 xs i).f4.length (rd_T50 xs i).f4:=by
 obtain ⟨ad,c,e,_,hK,hc0⟩:=Kd.C_get h z50 i h0 h1;have hc:∀j u,c[j]?=some u→w.cell? (ad.add (i.toNat*5+j))=some u:=hc0
 obtain ⟨A2,c2,A3,c3,A4,c4,rfl,l2,g2,l3,g3,l4,g4⟩:=k50_open hK;exact ⟨ad,A2,c2,A3,c3,A4,c4,e,hc 0 _ rfl,by rw [←add_field _ _ 1 (by omega)];exact hc 1 _ rfl,by rw [←add_field _ _ 2 (by omega)];exact hc 2 _ rfl,by rw [←add_field _ _ 3 (by omega)];exact hc 3 _ rfl,by rw [←add_field _ _ 4 (by omega)];exact hc 4 _ rfl,l2,g2,l3,g3,l4,g4⟩
structure S104 where
 f0:Int
 f1:Int
 f2:ByteArray
def z104:S104:=⟨(0:Int),(0:Int),(⟨#[]⟩:ByteArray)⟩
def k104:Kd S104:=Kd.iso (Kd.pair (Kd.int .i64) (Kd.pair (Kd.int .i64) Kd.string)) (fun x:S104=>(x.f0,x.f1,x.f2))
theorem k104_open {w:World} {x:S104} {cs:List Value} (h:k104.K w x cs):cs=[.int .i64 x.f0,.int .i64 x.f1,.string x.f2]:=by
 obtain ⟨_,_,rfl,rfl,⟨_,_,rfl,rfl,rfl⟩⟩:=h;exact rfl
theorem k104_openM {w:World} {base:Nat} {ok:Nat→Prop} {x:S104} {cs:List Value} (h:k104.M w base ok x cs):cs=[.int .i64 x.f0,.int .i64 x.f1,.string x.f2]:=by
 obtain ⟨_,_,rfl,rfl,⟨_,_,rfl,rfl,rfl⟩⟩:=h;exact rfl
theorem k104_mkM (w:World) (base:Nat) (ok:Nat→Prop) (x:S104)  : k104.M w base ok x [.int .i64 x.f0,.int .i64 x.f1,.string x.f2]:=⟨[.int .i64 x.f0],[.int .i64 x.f1,.string x.f2],rfl,rfl,⟨[.int .i64 x.f1],[.string x.f2],rfl,rfl,rfl⟩⟩
structure S134 where
 f0:Int
 f1:Int
 f2:ByteArray
 f3:S104
def z134:S134:=⟨(0:Int),(0:Int),(⟨#[]⟩:ByteArray),z104⟩
def k134:Kd S134:=Kd.iso (Kd.pair (Kd.int .i64) (Kd.pair (Kd.int .i64) (Kd.pair Kd.string k104))) (fun x:S134=>(x.f0,x.f1,x.f2,x.f3))
theorem k134_open {w:World} {x:S134} {cs:List Value} (h:k134.K w x cs):cs=[.int .i64 x.f0,.int .i64 x.f1,.string x.f2,.int .i64 x.f3.f0,.int .i64 x.f3.f1,.string x.f3.f2]:=by
 obtain ⟨_,_,rfl,rfl,⟨_,_,rfl,rfl,⟨_,_,rfl,rfl,s3⟩⟩⟩:=h;obtain rfl:=k104_open s3;exact rfl
theorem k134_openM {w:World} {base:Nat} {ok:Nat→Prop} {x:S134} {cs:List Value} (h:k134.M w base ok x cs):cs=[.int .i64 x.f0,.int .i64 x.f1,.string x.f2,.int .i64 x.f3.f0,.int .i64 x.f3.f1,.string x.f3.f2]:=by
 obtain ⟨_,_,rfl,rfl,⟨_,_,rfl,rfl,⟨_,_,rfl,rfl,s3⟩⟩⟩:=h;obtain rfl:=k104_openM s3;exact rfl
theorem k134_mkM (w:World) (base:Nat) (ok:Nat→Prop) (x:S134)  : k134.M w base ok x [.int .i64 x.f0,.int .i64 x.f1,.string x.f2,.int .i64 x.f3.f0,.int .i64 x.f3.f1,.string x.f3.f2]:=⟨[.int .i64 x.f0],[.int .i64 x.f1,.string x.f2,.int .i64 x.f3.f0,.int .i64 x.f3.f1,.string x.f3.f2],rfl,rfl,⟨[.int .i64 x.f1],[.string x.f2,.int .i64 x.f3.f0,.int .i64 x.f3.f1,.string x.f3.f2],rfl,rfl,⟨[.string x.f2],[.int .i64 x.f3.f0,.int .i64 x.f3.f1,.string x.f3.f2],rfl,rfl,(k104_mkM w base ok x.f3 )⟩⟩⟩
def rd_T134 (xs:List S134) (i:Int):S134:=xs.getD i.toNat z134
theorem at_T134 {w:World} {A:Option Addr} {n:Nat} {xs:List S134} (h:Kd.C k134 w A n xs) (i:Int) (h0:0≤i) (h1:i<n):∃ad ,A=some ad∧w.cell? (ad.add (i.toNat*6))=some (.int .i64 (rd_T134 xs i).f0)∧w.cell? ⟨(ad.add (i.toNat*6)).block,(ad.add (i.toNat*6)).off+1,none⟩=some (.int .i64 (rd_T134 xs i).f1)∧w.cell? ⟨(ad.add (i.toNat*6)).block,(ad.add (i.toNat*6)).off+2,none⟩=some (.string (rd_T134 xs i).f2)∧w.cell? ⟨(ad.add (i.toNat*6)).block,(ad.add (i.toNat*6)).off+3,none⟩=some (.int .i64 (rd_T134 xs i).f3.f0)∧w.cell? ⟨(ad.add (i.toNat*6)).block,(ad.add (i.toNat*6)).off+4,none⟩=some (.int .i64 (rd_T134 xs i).f3.f1)∧w.cell? ⟨(ad.add (i.toNat*6)).block,(ad.add (i.toNat*6)).off+5,none⟩=some (.string (rd_T134 xs i).f3.f2):=by
 obtain ⟨ad,c,e,_,hK,hc0⟩:=Kd.C_get h z134 i h0 h1;have hc:∀j u,c[j]?=some u→w.cell? (ad.add (i.toNat*6+j))=some u:=hc0
 obtain rfl:=k134_open hK;exact ⟨ad,e,hc 0 _ rfl,by rw [←add_field _ _ 1 (by omega)];exact hc 1 _ rfl,by rw [←add_field _ _ 2 (by omega)];exact hc 2 _ rfl,by rw [←add_field _ _ 3 (by omega)];exact hc 3 _ rfl,by rw [←add_field _ _ 4 (by omega)];exact hc 4 _ rfl,by rw [←add_field _ _ 5 (by omega)];exact hc 5 _ rfl⟩
structure S101 where
 f0:Bool
 f1:ByteArray
 f2:(List S134)
def z101:S101:=⟨false,(⟨#[]⟩:ByteArray),([]:List S134)⟩
def k101:Kd S101:=Kd.iso (Kd.pair Kd.bool (Kd.pair Kd.string (Kd.slice 134 k134))) (fun x:S101=>(x.f0,x.f1,x.f2))
theorem k101_open {w:World} {x:S101} {cs:List Value} (h:k101.K w x cs):∃A2 c2,cs=[.bool x.f0,.string x.f1,.slice A2 x.f2.length c2]∧x.f2.length≤c2∧k134.C w A2 x.f2.length x.f2:=by
 obtain ⟨_,_,rfl,rfl,⟨_,_,rfl,rfl,⟨A2,c2,rfl,l2,g2⟩⟩⟩:=h;exact ⟨A2,c2,rfl,l2,g2⟩
theorem k101_openM {w:World} {base:Nat} {ok:Nat→Prop} {x:S101} {cs:List Value} (h:k101.M w base ok x cs):∃v2,cs=[.bool x.f0,.string x.f1,v2]∧k134.R 134 w base ok v2 x.f2:=by
 obtain ⟨_,_,rfl,rfl,⟨_,_,rfl,rfl,⟨v2,rfl,g2⟩⟩⟩:=h;exact ⟨v2,rfl,g2⟩
theorem k101_mkM (w:World) (base:Nat) (ok:Nat→Prop) (x:S101) {v2:Value} (g2:k134.R 134 w base ok v2 x.f2):k101.M w base ok x [.bool x.f0,.string x.f1,v2]:=⟨[.bool x.f0],[.string x.f1,v2],rfl,rfl,⟨[.string x.f1],[v2],rfl,rfl,⟨v2,rfl,g2⟩⟩⟩
def rd_T101 (xs:List S101) (i:Int):S101:=xs.getD i.toNat z101
theorem at_T101 {w:World} {A:Option Addr} {n:Nat} {xs:List S101} (h:Kd.C k101 w A n xs) (i:Int) (h0:0≤i) (h1:i<n):∃ad A2 c2,A=some ad∧w.cell? (ad.add (i.toNat*3))=some (.bool (rd_T101 xs i).f0)∧w.cell? ⟨(ad.add (i.toNat*3)).block,(ad.add (i.toNat*3)).off+1,none⟩=some (.string (rd_T101 xs i).f1)∧w.cell? ⟨(ad.add (i.toNat*3)).block,(ad.add (i.toNat*3)).off+2,none⟩=some (.slice A2 (rd_T101 xs i).f2.length c2)∧(rd_T101 xs i).f2.length≤c2∧k134.C w A2 (rd_T101 xs i).f2.length (rd_T101 xs i).f2:=by
 obtain ⟨ad,c,e,_,hK,hc0⟩:=Kd.C_get h z101 i h0 h1;have hc:∀j u,c[j]?=some u→w.cell? (ad.add (i.toNat*3+j))=some u:=hc0
 obtain ⟨A2,c2,rfl,l2,g2⟩:=k101_open hK;exact ⟨ad,A2,c2,e,hc 0 _ rfl,by rw [←add_field _ _ 1 (by omega)];exact hc 1 _ rfl,by rw [←add_field _ _ 2 (by omega)];exact hc 2 _ rfl,l2,g2⟩
structure S106 where
 f0:Int
 f1:Int
 f2:ByteArray
 f3:S104
 f4:Int
 f5:Int
def z106:S106:=⟨(0:Int),(0:Int),(⟨#[]⟩:ByteArray),z104,(0:Int),(0:Int)⟩
def k106:Kd S106:=Kd.iso (Kd.pair (Kd.int .i64) (Kd.pair (Kd.int .u8) (Kd.pair Kd.string (Kd.pair k104 (Kd.pair (Kd.int .i64) (Kd.int .i64)))))) (fun x:S106=>(x.f0,x.f1,x.f2,x.f3,x.f4,x.f5))
theorem k106_open {w:World} {x:S106} {cs:List Value} (h:k106.K w x cs):cs=[.int .i64 x.f0,.int .u8 x.f1,.string x.f2,.int .i64 x.f3.f0,.int .i64 x.f3.f1,.string x.f3.f2,.int .i64 x.f4,.int .i64 x.f5]:=by
 obtain ⟨_,_,rfl,rfl,⟨_,_,rfl,rfl,⟨_,_,rfl,rfl,⟨_,_,rfl,s3,⟨_,_,rfl,rfl,rfl⟩⟩⟩⟩⟩:=h;obtain rfl:=k104_open s3;exact rfl
theorem k106_openM {w:World} {base:Nat} {ok:Nat→Prop} {x:S106} {cs:List Value} (h:k106.M w base ok x cs):cs=[.int .i64 x.f0,.int .u8 x.f1,.string x.f2,.int .i64 x.f3.f0,.int .i64 x.f3.f1,.string x.f3.f2,.int .i64 x.f4,.int .i64 x.f5]:=by
 obtain ⟨_,_,rfl,rfl,⟨_,_,rfl,rfl,⟨_,_,rfl,rfl,⟨_,_,rfl,s3,⟨_,_,rfl,rfl,rfl⟩⟩⟩⟩⟩:=h;obtain rfl:=k104_openM s3;exact rfl
theorem k106_mkM (w:World) (base:Nat) (ok:Nat→Prop) (x:S106)  : k106.M w base ok x [.int .i64 x.f0,.int .u8 x.f1,.string x.f2,.int .i64 x.f3.f0,.int .i64 x.f3.f1,.string x.f3.f2,.int .i64 x.f4,.int .i64 x.f5]:=⟨[.int .i64 x.f0],[.int .u8 x.f1,.string x.f2,.int .i64 x.f3.f0,.int .i64 x.f3.f1,.string x.f3.f2,.int .i64 x.f4,.int .i64 x.f5],rfl,rfl,⟨[.int .u8 x.f1],[.string x.f2,.int .i64 x.f3.f0,.int .i64 x.f3.f1,.string x.f3.f2,.int .i64 x.f4,.int .i64 x.f5],rfl,rfl,⟨[.string x.f2],[.int .i64 x.f3.f0,.int .i64 x.f3.f1,.string x.f3.f2,.int .i64 x.f4,.int .i64 x.f5],rfl,rfl,⟨[.int .i64 x.f3.f0,.int .i64 x.f3.f1,.string x.f3.f2],[.int .i64 x.f4,.int .i64 x.f5],rfl,(k104_mkM w base ok x.f3 ),⟨[.int .i64 x.f4],[.int .i64 x.f5],rfl,rfl,rfl⟩⟩⟩⟩⟩
def rd_T106 (xs:List S106) (i:Int):S106:=xs.getD i.toNat z106
theorem at_T106 {w:World} {A:Option Addr} {n:Nat} {xs:List S106} (h:Kd.C k106 w A n xs) (i:Int) (h0:0≤i) (h1:i<n):∃ad ,A=some ad∧w.cell? (ad.add (i.toNat*8))=some (.int .i64 (rd_T106 xs i).f0)∧w.cell? ⟨(ad.add (i.toNat*8)).block,(ad.add (i.toNat*8)).off+1,none⟩=some (.int .u8 (rd_T106 xs i).f1)∧w.cell? ⟨(ad.add (i.toNat*8)).block,(ad.add (i.toNat*8)).off+2,none⟩=some (.string (rd_T106 xs i).f2)∧w.cell? ⟨(ad.add (i.toNat*8)).block,(ad.add (i.toNat*8)).off+3,none⟩=some (.int .i64 (rd_T106 xs i).f3.f0)∧w.cell? ⟨(ad.add (i.toNat*8)).block,(ad.add (i.toNat*8)).off+4,none⟩=some (.int .i64 (rd_T106 xs i).f3.f1)∧w.cell? ⟨(ad.add (i.toNat*8)).block,(ad.add (i.toNat*8)).off+5,none⟩=some (.string (rd_T106 xs i).f3.f2)∧w.cell? ⟨(ad.add (i.toNat*8)).block,(ad.add (i.toNat*8)).off+6,none⟩=some (.int .i64 (rd_T106 xs i).f4)∧w.cell? ⟨(ad.add (i.toNat*8)).block,(ad.add (i.toNat*8)).off+7,none⟩=some (.int .i64 (rd_T106 xs i).f5):=by
 obtain ⟨ad,c,e,_,hK,hc0⟩:=Kd.C_get h z106 i h0 h1;have hc:∀j u,c[j]?=some u→w.cell? (ad.add (i.toNat*8+j))=some u:=hc0
 obtain rfl:=k106_open hK;exact ⟨ad,e,hc 0 _ rfl,by rw [←add_field _ _ 1 (by omega)];exact hc 1 _ rfl,by rw [←add_field _ _ 2 (by omega)];exact hc 2 _ rfl,by rw [←add_field _ _ 3 (by omega)];exact hc 3 _ rfl,by rw [←add_field _ _ 4 (by omega)];exact hc 4 _ rfl,by rw [←add_field _ _ 5 (by omega)];exact hc 5 _ rfl,by rw [←add_field _ _ 6 (by omega)];exact hc 6 _ rfl,by rw [←add_field _ _ 7 (by omega)];exact hc 7 _ rfl⟩
structure S108 where
 f0:Int
 f1:Int
 f2:ByteArray
 f3:(List Int)
def z108:S108:=⟨(0:Int),(0:Int),(⟨#[]⟩:ByteArray),([]:List Int)⟩
def k108:Kd S108:=Kd.iso (Kd.pair (Kd.int .i64) (Kd.pair (Kd.int .i64) (Kd.pair Kd.string (Kd.slice 3 (Kd.int .i64))))) (fun x:S108=>(x.f0,x.f1,x.f2,x.f3))
theorem k108_open {w:World} {x:S108} {cs:List Value} (h:k108.K w x cs):∃A3 c3,cs=[.int .i64 x.f0,.int .i64 x.f1,.string x.f2,.slice A3 x.f3.length c3]∧x.f3.length≤c3∧(Kd.int .i64).C w A3 x.f3.length x.f3:=by
 obtain ⟨_,_,rfl,rfl,⟨_,_,rfl,rfl,⟨_,_,rfl,rfl,⟨A3,c3,rfl,l3,g3⟩⟩⟩⟩:=h;exact ⟨A3,c3,rfl,l3,g3⟩
theorem k108_openM {w:World} {base:Nat} {ok:Nat→Prop} {x:S108} {cs:List Value} (h:k108.M w base ok x cs):∃v3,cs=[.int .i64 x.f0,.int .i64 x.f1,.string x.f2,v3]∧(Kd.int .i64).R 3 w base ok v3 x.f3:=by
 obtain ⟨_,_,rfl,rfl,⟨_,_,rfl,rfl,⟨_,_,rfl,rfl,⟨v3,rfl,g3⟩⟩⟩⟩:=h;exact ⟨v3,rfl,g3⟩
theorem k108_mkM (w:World) (base:Nat) (ok:Nat→Prop) (x:S108) {v3:Value} (g3:(Kd.int .i64).R 3 w base ok v3 x.f3):k108.M w base ok x [.int .i64 x.f0,.int .i64 x.f1,.string x.f2,v3]:=⟨[.int .i64 x.f0],[.int .i64 x.f1,.string x.f2,v3],rfl,rfl,⟨[.int .i64 x.f1],[.string x.f2,v3],rfl,rfl,⟨[.string x.f2],[v3],rfl,rfl,⟨v3,rfl,g3⟩⟩⟩⟩
def rd_T108 (xs:List S108) (i:Int):S108:=xs.getD i.toNat z108
theorem at_T108 {w:World} {A:Option Addr} {n:Nat} {xs:List S108} (h:Kd.C k108 w A n xs) (i:Int) (h0:0≤i) (h1:i<n):∃ad A3 c3,A=some ad∧w.cell? (ad.add (i.toNat*4))=some (.int .i64 (rd_T108 xs i).f0)∧w.cell? ⟨(ad.add (i.toNat*4)).block,(ad.add (i.toNat*4)).off+1,none⟩=some (.int .i64 (rd_T108 xs i).f1)∧w.cell? ⟨(ad.add (i.toNat*4)).block,(ad.add (i.toNat*4)).off+2,none⟩=some (.string (rd_T108 xs i).f2)∧w.cell? ⟨(ad.add (i.toNat*4)).block,(ad.add (i.toNat*4)).off+3,none⟩=some (.slice A3 (rd_T108 xs i).f3.length c3)∧(rd_T108 xs i).f3.length≤c3∧(Kd.int .i64).C w A3 (rd_T108 xs i).f3.length (rd_T108 xs i).f3:=by
 obtain ⟨ad,c,e,_,hK,hc0⟩:=Kd.C_get h z108 i h0 h1;have hc:∀j u,c[j]?=some u→w.cell? (ad.add (i.toNat*4+j))=some u:=hc0
 obtain ⟨A3,c3,rfl,l3,g3⟩:=k108_open hK;exact ⟨ad,A3,c3,e,hc 0 _ rfl,by rw [←add_field _ _ 1 (by omega)];exact hc 1 _ rfl,by rw [←add_field _ _ 2 (by omega)];exact hc 2 _ rfl,by rw [←add_field _ _ 3 (by omega)];exact hc 3 _ rfl,l3,g3⟩
structure S58 where
 f0:ByteArray
 f1:Int
 f2:(List S101)
 f3:(List S106)
 f4:(List S108)
def z58:S58:=⟨(⟨#[]⟩:ByteArray),(0:Int),([]:List S101),([]:List S106),([]:List S108)⟩
def k58:Kd S58:=Kd.iso (Kd.pair Kd.string (Kd.pair (Kd.int .i64) (Kd.pair (Kd.slice 101 k101) (Kd.pair (Kd.slice 106 k106) (Kd.slice 108 k108))))) (fun x:S58=>(x.f0,x.f1,x.f2,x.f3,x.f4))
theorem k58_open {w:World} {x:S58} {cs:List Value} (h:k58.K w x cs):∃A2 c2 A3 c3 A4 c4,cs=[.string x.f0,.int .i64 x.f1,.slice A2 x.f2.length c2,.slice A3 x.f3.length c3,.slice A4 x.f4.length c4]∧x.f2.length≤c2∧k101.C w A2 x.f2.length x.f2∧x.f3.length≤c3∧k106.C w A3 x.f3.length x.f3∧x.f4.length≤c4∧k108.C w A4 x.f4.length x.f4:=by
 obtain ⟨_,_,rfl,rfl,⟨_,_,rfl,rfl,⟨_,_,rfl,⟨A2,c2,rfl,l2,g2⟩,⟨_,_,rfl,⟨A3,c3,rfl,l3,g3⟩,⟨A4,c4,rfl,l4,g4⟩⟩⟩⟩⟩:=h;exact ⟨A2,c2,A3,c3,A4,c4,rfl,l2,g2,l3,g3,l4,g4⟩
theorem k58_openM {w:World} {base:Nat} {ok:Nat→Prop} {x:S58} {cs:List Value} (h:k58.M w base ok x cs):∃v2 v3 v4,cs=[.string x.f0,.int .i64 x.f1,v2,v3,v4]∧k101.R 101 w base ok v2 x.f2∧k106.R 106 w base ok v3 x.f3∧k108.R 108 w base ok v4 x.f4:=by
 obtain ⟨_,_,rfl,rfl,⟨_,_,rfl,rfl,⟨_,_,rfl,⟨v2,rfl,g2⟩,⟨_,_,rfl,⟨v3,rfl,g3⟩,⟨v4,rfl,g4⟩⟩⟩⟩⟩:=h;exact ⟨v2,v3,v4,rfl,g2,g3,g4⟩
theorem k58_mkM (w:World) (base:Nat) (ok:Nat→Prop) (x:S58) {v2:Value} (g2:k101.R 101 w base ok v2 x.f2) {v3:Value} (g3:k106.R 106 w base ok v3 x.f3) {v4:Value} (g4:k108.R 108 w base ok v4 x.f4):k58.M w base ok x [.string x.f0,.int .i64 x.f1,v2,v3,v4]:=⟨[.string x.f0],[.int .i64 x.f1,v2,v3,v4],rfl,rfl,⟨[.int .i64 x.f1],[v2,v3,v4],rfl,rfl,⟨[v2],[v3,v4],rfl,⟨v2,rfl,g2⟩,⟨[v3],[v4],rfl,⟨v3,rfl,g3⟩,⟨v4,rfl,g4⟩⟩⟩⟩⟩
def rd_T58 (xs:List S58) (i:Int):S58:=xs.getD i.toNat z58
theorem at_T58 {w:World} {A:Option Addr} {n:Nat} {xs:List S58} (h:Kd.C k58 w A n xs) (i:Int) (h0:0≤i) (h1:i<n):∃ad A2 c2 A3 c3 A4 c4,A=some ad∧w.cell? (ad.add (i.toNat*5))=some (.string (rd_T58 xs i).f0)∧w.cell? ⟨(ad.add (i.toNat*5)).block,(ad.add (i.toNat*5)).off+1,none⟩=some (.int .i64 (rd_T58 xs i).f1)∧w.cell? ⟨(ad.add (i.toNat*5)).block,(ad.add (i.toNat*5)).off+2,none⟩=some (.slice A2 (rd_T58 xs i).f2.length c2)∧w.cell? ⟨(ad.add (i.toNat*5)).block,(ad.add (i.toNat*5)).off+3,none⟩=some (.slice A3 (rd_T58 xs i).f3.length c3)∧w.cell? ⟨(ad.add (i.toNat*5)).block,(ad.add (i.toNat*5)).off+4,none⟩=some (.slice A4 (rd_T58 xs i).f4.length c4)∧(rd_T58 xs i).f2.length≤c2∧k101.C w A2 (rd_T58 xs i).f2.length (rd_T58 xs i).f2∧(rd_T58 xs i).f3.length≤c3∧k106.C w A3 (rd_T58 xs i).f3.length (rd_T58 xs i).f3∧(rd_T58 xs i).f4.length≤c4∧k108.C w A4 (rd_T58 xs i).f4.length (rd_T58 xs i).f4:=by
 obtain ⟨ad,c,e,_,hK,hc0⟩:=Kd.C_get h z58 i h0 h1;have hc:∀j u,c[j]?=some u→w.cell? (ad.add (i.toNat*5+j))=some u:=hc0
 obtain ⟨A2,c2,A3,c3,A4,c4,rfl,l2,g2,l3,g3,l4,g4⟩:=k58_open hK;exact ⟨ad,A2,c2,A3,c3,A4,c4,e,hc 0 _ rfl,by rw [←add_field _ _ 1 (by omega)];exact hc 1 _ rfl,by rw [←add_field _ _ 2 (by omega)];exact hc 2 _ rfl,by rw [←add_field _ _ 3 (by omega)];exact hc 3 _ rfl,by rw [←add_field _ _ 4 (by omega)];exact hc 4 _ rfl,l2,g2,l3,g3,l4,g4⟩
structure S25 where
 f0:Int
 f1:(List Int)
def z25:S25:=⟨(0:Int),([]:List Int)⟩
def k25:Kd S25:=Kd.iso (Kd.pair (Kd.int .i64) (Kd.slice 3 (Kd.int .i64))) (fun x:S25=>(x.f0,x.f1))
theorem k25_open {w:World} {x:S25} {cs:List Value} (h:k25.K w x cs):∃A1 c1,cs=[.int .i64 x.f0,.slice A1 x.f1.length c1]∧x.f1.length≤c1∧(Kd.int .i64).C w A1 x.f1.length x.f1:=by
 obtain ⟨_,_,rfl,rfl,⟨A1,c1,rfl,l1,g1⟩⟩:=h;exact ⟨A1,c1,rfl,l1,g1⟩
def rd_T25 (xs:List S25) (i:Int):S25:=xs.getD i.toNat z25
theorem at_T25 {w:World} {A:Option Addr} {n:Nat} {xs:List S25} (h:Kd.C k25 w A n xs) (i:Int) (h0:0≤i) (h1:i<n):∃ad A1 c1,A=some ad∧w.cell? (ad.add (i.toNat*2))=some (.int .i64 (rd_T25 xs i).f0)∧w.cell? ⟨(ad.add (i.toNat*2)).block,(ad.add (i.toNat*2)).off+1,none⟩=some (.slice A1 (rd_T25 xs i).f1.length c1)∧(rd_T25 xs i).f1.length≤c1∧(Kd.int .i64).C w A1 (rd_T25 xs i).f1.length (rd_T25 xs i).f1:=by
 obtain ⟨ad,c,e,_,hK,hc0⟩:=Kd.C_get h z25 i h0 h1;have hc:∀j u,c[j]?=some u→w.cell? (ad.add (i.toNat*2+j))=some u:=hc0
 obtain ⟨A1,c1,rfl,l1,g1⟩:=k25_open hK;exact ⟨ad,A1,c1,e,hc 0 _ rfl,by rw [←add_field _ _ 1 (by omega)];exact hc 1 _ rfl,l1,g1⟩
structure S31 where
 f0:Int
 f1:(List Int)
def z31:S31:=⟨(0:Int),([]:List Int)⟩
def k31:Kd S31:=Kd.iso (Kd.pair (Kd.int .i64) (Kd.slice 3 (Kd.int .i64))) (fun x:S31=>(x.f0,x.f1))
theorem k31_open {w:World} {x:S31} {cs:List Value} (h:k31.K w x cs):∃A1 c1,cs=[.int .i64 x.f0,.slice A1 x.f1.length c1]∧x.f1.length≤c1∧(Kd.int .i64).C w A1 x.f1.length x.f1:=by
 obtain ⟨_,_,rfl,rfl,⟨A1,c1,rfl,l1,g1⟩⟩:=h;exact ⟨A1,c1,rfl,l1,g1⟩
theorem k31_openM {w:World} {base:Nat} {ok:Nat→Prop} {x:S31} {cs:List Value} (h:k31.M w base ok x cs):∃v1,cs=[.int .i64 x.f0,v1]∧(Kd.int .i64).R 3 w base ok v1 x.f1:=by
 obtain ⟨_,_,rfl,rfl,⟨v1,rfl,g1⟩⟩:=h;exact ⟨v1,rfl,g1⟩
theorem k31_mk (w:World) (x:S31) {A1:Option Addr} {c1:Nat} (l1:x.f1.length≤c1) (g1:(Kd.int .i64).C w A1 x.f1.length x.f1):k31.K w x [.int .i64 x.f0,.slice A1 x.f1.length c1]:=⟨[.int .i64 x.f0],[.slice A1 x.f1.length c1],rfl,rfl,⟨A1,c1,rfl,l1,g1⟩⟩
theorem k31_mkM (w:World) (base:Nat) (ok:Nat→Prop) (x:S31) {v1:Value} (g1:(Kd.int .i64).R 3 w base ok v1 x.f1):k31.M w base ok x [.int .i64 x.f0,v1]:=⟨[.int .i64 x.f0],[v1],rfl,rfl,⟨v1,rfl,g1⟩⟩
theorem k31_openF {W:World} {ok:Nat→Prop} {x:S31} {cs:List Value} (h:Kd.FK k31 W ok x cs):∃A1 c1,cs=[.int .i64 x.f0,.slice A1 x.f1.length c1]∧x.f1.length≤c1∧Kd.F (Kd.int .i64) W ok A1 x.f1.length x.f1:=by
 obtain ⟨A1,c1,rfl,l1,_⟩:=k31_open (Kd.FK_now h);exact ⟨A1,c1,rfl,l1,(fun W' hW=>by obtain ⟨A1_,c1_,he,l1_,g1_⟩:=k31_open (h W' hW);injection (Option.some.inj (show some (Value.slice A1 x.f1.length c1)=some (Value.slice A1_ x.f1.length c1_) from congrArg (fun l=>l[1]?) he)) with ha_ _ _;rw [ha_];exact g1_)⟩
theorem k31_mkF (W:World) (ok:Nat→Prop) (x:S31) {A1:Option Addr} {c1:Nat} (l1:x.f1.length≤c1) (g1:Kd.F (Kd.int .i64) W ok A1 x.f1.length x.f1):Kd.FK k31 W ok x [.int .i64 x.f0,.slice A1 x.f1.length c1]:=fun W2 hW=>k31_mk W2 x l1 (g1 W2 hW)
def rd_T31 (xs:List S31) (i:Int):S31:=xs.getD i.toNat z31
theorem at_T31 {w:World} {A:Option Addr} {n:Nat} {xs:List S31} (h:Kd.C k31 w A n xs) (i:Int) (h0:0≤i) (h1:i<n):∃ad A1 c1,A=some ad∧w.cell? (ad.add (i.toNat*2))=some (.int .i64 (rd_T31 xs i).f0)∧w.cell? ⟨(ad.add (i.toNat*2)).block,(ad.add (i.toNat*2)).off+1,none⟩=some (.slice A1 (rd_T31 xs i).f1.length c1)∧(rd_T31 xs i).f1.length≤c1∧(Kd.int .i64).C w A1 (rd_T31 xs i).f1.length (rd_T31 xs i).f1:=by
 obtain ⟨ad,c,e,_,hK,hc0⟩:=Kd.C_get h z31 i h0 h1;have hc:∀j u,c[j]?=some u→w.cell? (ad.add (i.toNat*2+j))=some u:=hc0
 obtain ⟨A1,c1,rfl,l1,g1⟩:=k31_open hK;exact ⟨ad,A1,c1,e,hc 0 _ rfl,by rw [←add_field _ _ 1 (by omega)];exact hc 1 _ rfl,l1,g1⟩
end Go.Proofs.YtejjlkbbnhpbdaaGreat.P
namespace Go.Proofs.YtejjlkbbnhpbdaaGreatX
open Go Go.RowKit Go.Proofs.YtejjlkbbnhpbdaaGreatW.PrintWords Go.Proofs.YtejjlkbbnhpbdaaGreatW.PrintLast
set_option linter.unusedVariables false
set_option linter.unusedSimpArgs false
abbrev t_:Bool:=true
abbrev f_:Bool:=false
theorem ps_:(∀(l:List Value) (i:Nat) (a:Value),l.toArray.setIfInBounds i a=(l.set i a).toArray)∧(∀(x a:Value) (l:List Value),(x::l).set 0 a=a::l)∧(∀(x a:Value) (l:List Value) (i:Nat),(x::l).set (i+1) a=x::l.set i a)∧(∀n,IntKind.i64.wrap n=Go.RowKit.wrap64 n)∧(∀n,IntKind.i32.wrap n=Go.RowKit.wrap32 n):=
 ⟨fun _ _ _=>List.setIfInBounds_toArray ..,fun _ _ _=>List.set_cons_zero,fun _ _ _ _=>List.set_cons_succ,i64_w,i32_w⟩
section
variable {P:Program} {md:Region.Mode} {ops:Array Oper} {Q:Exit→Act→World→Prop} {S:World→Prop} {ds:List Nat}
theorem pu_ {oi:Oper} {v:Value} {fuel:Nat} {l:Array Bool} {a a':Act} {w:World} (i N:Nat) (l':Array Bool) (hc:anyB md ops l l' i=true) (h:wpAnyLast P md ops Q S ds fuel l' a' w)
  (hi:ops[i]?=some oi:=by exact rfl) (hN:oi.dst=some N:=by exact rfl) (hQ:∀c a w,Q (.panic c) (a.put oi.dst v) w→Q (.panic c) a w:=by exact fun _ _ _ h=>h)
  (hy:Yields P ops oi v a:=by exact Or.inl ⟨by rfl,by intro w';go_simp;with_reducible rfl⟩)
  (ha:a.put (some N) v=a':=by simp only [Act.put,ps_];rfl):wpAnyLast P md ops Q S ds (fuel+1) l a w:=pure_ l' hi hN hc hQ hy ha h
theorem pv_ {oi:Oper} {fuel:Nat} {l:Array Bool} {a a':Act} {w:World} (i N:Nat) (l':Array Bool) (hc:anyB md ops l l' i=true) (h:wpAnyLast P md ops Q S ds fuel l' a' w)
  (hi:ops[i]?=some oi:=by exact rfl) (hN:oi.dst=some N:=by exact rfl) (hQ:∀c a w,Q (.panic c) (a.put oi.dst undef) w→Q (.panic c) a w:=by exact fun _ _ _ h=>h)
  (hy:Yields P ops oi undef a:=by exact Or.inr ⟨by rfl,rfl⟩)
  (ha:a.put (some N) undef=a':=by simp only [Act.put,ps_];rfl):wpAnyLast P md ops Q S ds (fuel+1) l a w:=pure_ l' hi hN hc hQ hy ha h
theorem tk_ {oi:Oper} {v:Value} {fuel:Nat} {l:Array Bool} {a a':Act} {w:World} (i N:Nat) (l':Array Bool) (hc:takeB md ops ds l l' i=true) (hS:S w) (h:wpAnyLast P md ops Q S ds fuel l' a' w)
  (hi:ops[i]?=some oi:=by exact rfl) (hN:oi.dst=some N:=by exact rfl) (hQ:∀c a w,Q (.panic c) (a.put oi.dst v) w→Q (.panic c) a w:=by exact fun _ _ _ h=>h)
  (hy:YieldsIf P ops S oi v a:=by exact Or.inl ⟨by rfl,by intro w' hs;(repeat (obtain ⟨_,hs⟩:=hs));go_simp;with_reducible rfl⟩)
  (ha:a.put (some N) v=a':=by simp only [Act.put,ps_];rfl):wpAnyLast P md ops Q S ds (fuel+1) l a w:=take_ l' hi hN hc hQ hy hS ha h
theorem nm_ {v:Value} {fuel:Nat} {l:Array Bool} {a a':Act} {w:World} (N:Nat) (h:wpAnyLast P md ops Q S ds fuel l a' w) (ha:Act.put a (some N) v=a':=by simp only [Act.put,ps_];rfl):wpAnyLast P md ops Q S ds fuel l (Act.put a (some N) v) w:=norm_ ha h
end
section
variable {w:World} {g:Nat} {t:TypeId} {a0 a1 a2 a3 a4 a5 a6 a7:Value}
theorem bc2 (h:Aside0 (w.heap[g]?=some (.cells #[a0,a1] t (0,0)))):w.cell? ⟨g,0,none⟩=some a0∧w.cell? ⟨g,1,none⟩=some a1:=⟨(blk_cell h.out 0).trans rfl,(blk_cell h.out 1).trans rfl⟩
theorem bc8 (h:Aside0 (w.heap[g]?=some (.cells #[a0,a1,a2,a3,a4,a5,a6,a7] t (0,0)))):w.cell? ⟨g,0,none⟩=some a0∧w.cell? ⟨g,1,none⟩=some a1∧w.cell? ⟨g,2,none⟩=some a2∧w.cell? ⟨g,3,none⟩=some a3∧w.cell? ⟨g,4,none⟩=some a4∧w.cell? ⟨g,5,none⟩=some a5∧w.cell? ⟨g,6,none⟩=some a6∧w.cell? ⟨g,7,none⟩=some a7:=⟨(blk_cell h.out 0).trans rfl,(blk_cell h.out 1).trans rfl,(blk_cell h.out 2).trans rfl,(blk_cell h.out 3).trans rfl,(blk_cell h.out 4).trans rfl,(blk_cell h.out 5).trans rfl,(blk_cell h.out 6).trans rfl,(blk_cell h.out 7).trans rfl⟩
end
end Go.Proofs.YtejjlkbbnhpbdaaGreatX
namespace Go.Proofs.YtejjlkbbnhpbdaaGreat.P
open Go.Proofs.YtejjlkbbnhpbdaaGreatX
open Go.RowKit Go.Proofs.YtejjlkbbnhpbdaaGreatW.PrintWords Go.Proofs.YtejjlkbbnhpbdaaGreatW.PrintLast Go.Proofs.YtejjlkbbnhpbdaaGreatW.PrintMore
attribute [local go_sem] max2_int min2_int max_two min_two max_three min_three max_four min_four
set_option linter.unusedVariables false
set_option linter.unusedSimpArgs false
def laws_szValue.f (a0_0:Int) (a0_1:Int) (a0_2:ByteArray) (a1:Int):Option (Int):=if (wrap64 (a1-(a0_2.size:Int)))<0 then (some (-1)) else (some (wrap64 (a1-(a0_2.size:Int))))
theorem u57e_0 {p:Prop} (h:p:=by
 clear c3;obtain rfl:=oi_ H;go_enter Tryz.func86,Tryz.ntmps86;go_wp2_with (first|((with_reducible refine gate_dst (N:=2) rfl ?_);refine bh_ 2 #[.int .i64 a0_0,.int .i64 a0_1,.string a0_2] 114 HB ?_;intro gb101 hg wx BK101 GE101 hb;replace HB:=ms_ HB hb;clear hb hg;replace hz101:=cz3 BK101));go_ret;exact ⟨me_,mb_ HB⟩):p:=h
set_option maxHeartbeats 8000000 in
set_option maxRecDepth 100000 in
theorem laws_szValue.calls (a0_0:Int) (a0_1:Int) (a0_2:ByteArray) (a1:Int) (r:Int) (w:World) (h:laws_szValue.f a0_0 a0_1 a0_2 a1=some r):
  Calls Tryz.prog 86 #[.agg #[.int .i64 a0_0,.int .i64 a0_1,.string a0_2],.int .i64 a1] w fun e w'=>e=.returned (.int .i64 r)∧Below w.heap.size w w':=by
 have hu114:=Tryz.underlying114;have HB:=a_ (Below.refl w.heap.size w);have H:=h;unfold laws_szValue.f at H
 clear h;by_cases c3:(wrap64 (a1-(a0_2.size:Int)))<0
 ·rw [if_pos c3] at H;have c3b0:=ct_ c3;exact u57e_0
 ·rw [if_neg c3] at H;have c3b0:=cf_ c3;exact u57e_0
def laws_szTerm.f (a0_0:Int) (a0_1:Int) (a0_2:ByteArray) (a0_3:Int) (a0_4:Int) (a0_5:ByteArray) (a1:Int):Option (Int):=if (wrap64 (a1-(a0_2.size:Int)))<0 then (some (-1)) else ((laws_szValue.f a0_3 a0_4 a0_5 (wrap64 (a1-(a0_2.size:Int)))).bind fun t103=>(if t103<0 then (some (-1)) else (some t103)))
theorem u57e_1 {p:Prop} (h:p:=by
 obtain rfl:=oi_ H;go_enter Tryz.func104,Tryz.ntmps104;go_wp2_with (first|((with_reducible refine gate_dst (N:=2) rfl ?_);refine bh_ 2 #[.int .i64 a0_0,.int .i64 a0_1,.string a0_2,.int .i64 a0_3,.int .i64 a0_4,.string a0_5] 160 HB ?_;intro gb102 hg wx BK102 GE102 hb;replace HB:=ms_ HB hb;clear hb hg;replace hz102:=cz6 BK102)|((with_reducible refine gate_callee (f:=86) rfl ?_);refine goesL_ (some 15) rfl rfl Tryz.func86 (by kernel_rfl) rfl #[.agg #[.int .i64 a0_3,.int .i64 a0_4,.string a0_5],.int .i64 (wrap64 (a1-(a0_2.size:Int)))] rfl mw_ ?_;(with_reducible refine (laws_szValue.calls a0_3 a0_4 a0_5 (wrap64 (a1-(a0_2.size:Int))) t103 _ A6.out).mono ?_);rintro e wx ⟨rfl,hb⟩;refine ⟨_,rfl,?_⟩;replace BK102:=mk_ BK102 hb;replace HB:=ms_ HB hb;(try clear hb)));go_ret;exact ⟨me_,mb_ HB⟩):p:=h
set_option maxHeartbeats 8000000 in
set_option maxRecDepth 100000 in
theorem laws_szTerm.calls (a0_0:Int) (a0_1:Int) (a0_2:ByteArray) (a0_3:Int) (a0_4:Int) (a0_5:ByteArray) (a1:Int) (r:Int) (w:World) (h:laws_szTerm.f a0_0 a0_1 a0_2 a0_3 a0_4 a0_5 a1=some r):
  Calls Tryz.prog 104 #[.agg #[.int .i64 a0_0,.int .i64 a0_1,.string a0_2,.int .i64 a0_3,.int .i64 a0_4,.string a0_5],.int .i64 a1] w fun e w'=>e=.returned (.int .i64 r)∧Below w.heap.size w w':=by
 have hu160:=Tryz.underlying160;have hu114:=Tryz.underlying114;have HB:=a_ (Below.refl w.heap.size w);have H:=h;unfold laws_szTerm.f at H
 clear h;by_cases c3:(wrap64 (a1-(a0_2.size:Int)))<0
 ·rw [if_pos c3] at H;have c3b0:=ct_ c3;clear c3;exact u57e_1
 ·rw [if_neg c3] at H;have c3b0:=cf_ c3;clear c3;obtain ⟨t103,A6,H⟩:=ob_ H;by_cases c7:t103<0
  ·rw [if_pos c7] at H;have c7b0:=ct_ c7;clear c7;exact u57e_1
  ·rw [if_neg c7] at H;have c7b0:=cf_ c7;clear c7;exact u57e_1
def laws_szTermS.l0:Nat→List (S160)→Int→Int→Option (Int)
 | 0,_,_,_=>none
 | k+1,x0,x1,x5=>if x5<(x0.length:Int) then (if 0≤x5 then ((laws_szTerm.f ((rd_T160 x0 x5).f0) ((rd_T160 x0 x5).f1) ((rd_T160 x0 x5).f2) ((rd_T160 x0 x5).f3.f0) ((rd_T160 x0 x5).f3.f1) ((rd_T160 x0 x5).f3.f2) x1).bind fun t105=>(if t105<0 then (some (-1)) else (laws_szTermS.l0 k x0 t105 (wrap64 (x5+1))))) else (none)) else (some x1)
def laws_szTermS.f (k:Nat) (l0:List (S160)) (a1:Int):Option (Int):=if (wrap64 (a1-(l0.length:Int)))<0 then (some (-1)) else (laws_szTermS.l0 k l0 (wrap64 (a1-(l0.length:Int))) 0)
theorem laws_szTermS.mono_l:∀k,(∀y0 y1 y2,LeO (laws_szTermS.l0 k y0 y1 y2) (laws_szTermS.l0 (k+1) y0 y1 y2))
 | 0=>fun _ _ _ r h=>by simp [laws_szTermS.l0] at h
 | k+1=>by
  have ih0:=laws_szTermS.mono_l k
  ·intro y0 y1 y2;unfold laws_szTermS.l0
   repeat' with_reducible first|apply ih0|apply LeO.refl|apply LeO.none|refine LeO.ite ?_ ?_|refine LeO.bind ?_ (fun _=>?_)
theorem laws_szTermS.mono:∀a0 a1 k,LeO (laws_szTermS.f k a0 a1) (laws_szTermS.f (k+1) a0 a1):=by
 intro a0 a1 k;have ih0:=laws_szTermS.mono_l k;unfold laws_szTermS.f
 repeat' with_reducible first|apply ih0|apply LeO.refl|apply LeO.none|refine LeO.ite ?_ ?_|refine LeO.bind ?_ (fun _=>?_)
set_option maxHeartbeats 8000000 in
set_option maxRecDepth 100000 in
theorem laws_szTermS.calls (k:Nat) (A0:Option Addr) (c0:Nat) (l0:List (S160)) (a1:Int) (r:Int) (w:World) (hr0:Kd.C k160 w A0 l0.length l0) (hc0:l0.length≤c0) (h:laws_szTermS.f k l0 a1=some r):
  Calls Tryz.prog 85 #[.slice A0 l0.length c0,.int .i64 a1] w fun e w'=>e=.returned (.int .i64 r)∧Below w.heap.size w w':=by
 have hu160:=Tryz.underlying160;have HR0:=a_ hr0;have HC0:=a_ hc0;clear hr0 hc0;have HB:=a_ (Below.refl w.heap.size w);have H:=h;unfold laws_szTermS.f at H
 clear h;by_cases c3:(wrap64 (a1-(l0.length:Int)))<0
 ·rw [if_pos c3] at H;have c3b0:=ct_ c3;clear c3;obtain rfl:=oi_ H;go_enter Tryz.func85,Tryz.ntmps85;go_wp2;go_ret;exact ⟨me_,mb_ HB⟩
 ·rw [if_neg c3] at H;have c3b0:=cf_ c3;clear c3;have H':=a_ H;clear H;go_enter Tryz.func85,Tryz.ntmps85;go_wp2;go_loopg [1,5] k (fun kq v1 v5 w'=>∃(x1_1:Int) (x5_1:Int),v1=.int .i64 x1_1∧v5=.int .i64 x5_1∧Aside0 (laws_szTermS.l0 kq l0 x1_1 x5_1=some r)∧Aside0 (kq≤k)∧Aside0 (Below w.heap.size w w'))
  case atStart=>exact ⟨(wrap64 (a1-(l0.length:Int))),(0),mq_,mq_,H',⟨Nat.le_refl _⟩,⟨mb_ HB⟩⟩
  clear H';(try clear c3b0);obtain ⟨x1_1,x5_1,rfl,rfl,HA,HK1,HB⟩:=hrel;obtain _|k1:=gk
  ·exact absurd HA.out (by simp [laws_szTermS.l0])
  have H:=HA.out;clear HA;simp only [laws_szTermS.l0] at H;by_cases c4:x5_1<(l0.length:Int)
  ·rw [if_pos c4] at H;have c4b0:=ct_ c4;clear c4;by_cases c5:0≤x5_1
   case neg=>
    rw [if_neg c5] at H;cases H
   rw [if_pos c5] at H;have c5b0:=ct_ c5;clear c5;obtain ⟨t105,A6,H⟩:=ob_ H;by_cases c7:t105<0
   ·rw [if_pos c7] at H;have c7b0:=ct_ c7;clear c7;obtain rfl:=oi_ H;have p104:0≤(x5_1:Int):=md_
    have q104:x5_1<(l0.length:Int):=md_
    obtain ⟨ad104,e104,hx104_0,hx104_1,hx104_2,hx104_3,hx104_4,hx104_5⟩:=at_T160 HR0.out x5_1 p104 q104;cases e104;replace hx104_0:=mx_ HB hx104_0;replace hx104_1:=mx_ HB hx104_1;replace hx104_2:=mx_ HB hx104_2;replace hx104_3:=mx_ HB hx104_3;replace hx104_4:=mx_ HB hx104_4;replace hx104_5:=mx_ HB hx104_5;replace p104:=eq_true p104;replace q104:=eq_true q104;go_wp2_with (first|((with_reducible refine gate_callee (f:=104) rfl ?_);refine goesL_ (some 23) rfl rfl Tryz.func104 (by kernel_rfl) rfl #[.agg #[.int .i64 ((rd_T160 l0 x5_1).f0),.int .i64 ((rd_T160 l0 x5_1).f1),.string ((rd_T160 l0 x5_1).f2),.int .i64 ((rd_T160 l0 x5_1).f3.f0),.int .i64 ((rd_T160 l0 x5_1).f3.f1),.string ((rd_T160 l0 x5_1).f3.f2)],.int .i64 x1_1] rfl mw_ ?_;(with_reducible refine (laws_szTerm.calls ((rd_T160 l0 x5_1).f0) ((rd_T160 l0 x5_1).f1) ((rd_T160 l0 x5_1).f2) ((rd_T160 l0 x5_1).f3.f0) ((rd_T160 l0 x5_1).f3.f1) ((rd_T160 l0 x5_1).f3.f2) x1_1 t105 _ A6.out).mono ?_);rintro e wx ⟨rfl,hb⟩;refine ⟨_,rfl,?_⟩;replace HB:=ms_ HB hb;(try clear hb)));go_ret;exact ⟨me_,mb_ HB⟩
   ·rw [if_neg c7] at H;have c7b0:=cf_ c7;clear c7;have H':=a_ H;clear H;have p104:0≤(x5_1:Int):=md_
    have q104:x5_1<(l0.length:Int):=md_
    obtain ⟨ad104,e104,hx104_0,hx104_1,hx104_2,hx104_3,hx104_4,hx104_5⟩:=at_T160 HR0.out x5_1 p104 q104;cases e104;replace hx104_0:=mx_ HB hx104_0;replace hx104_1:=mx_ HB hx104_1;replace hx104_2:=mx_ HB hx104_2;replace hx104_3:=mx_ HB hx104_3;replace hx104_4:=mx_ HB hx104_4;replace hx104_5:=mx_ HB hx104_5;replace p104:=eq_true p104;replace q104:=eq_true q104;go_wp2_with (first|((with_reducible refine gate_callee (f:=104) rfl ?_);refine goesL_ (some 23) rfl rfl Tryz.func104 (by kernel_rfl) rfl #[.agg #[.int .i64 ((rd_T160 l0 x5_1).f0),.int .i64 ((rd_T160 l0 x5_1).f1),.string ((rd_T160 l0 x5_1).f2),.int .i64 ((rd_T160 l0 x5_1).f3.f0),.int .i64 ((rd_T160 l0 x5_1).f3.f1),.string ((rd_T160 l0 x5_1).f3.f2)],.int .i64 x1_1] rfl mw_ ?_;(with_reducible refine (laws_szTerm.calls ((rd_T160 l0 x5_1).f0) ((rd_T160 l0 x5_1).f1) ((rd_T160 l0 x5_1).f2) ((rd_T160 l0 x5_1).f3.f0) ((rd_T160 l0 x5_1).f3.f1) ((rd_T160 l0 x5_1).f3.f2) x1_1 t105 _ A6.out).mono ?_);rintro e wx ⟨rfl,hb⟩;refine ⟨_,rfl,?_⟩;replace HB:=ms_ HB hb;(try clear hb)));go_roundg k1
    case measure=>
     have:=HK1.out
     omega
    case rel=>exact ⟨(t105),(wrap64 (x5_1+1)),mq_,mq_,H',⟨by have:=HK1.out;omega⟩,⟨mb_ HB⟩⟩
  ·rw [if_neg c4] at H;have c4b0:=cf_ c4;clear c4;obtain rfl:=oi_ H;go_wp2;go_ret;exact ⟨me_,mb_ HB⟩
def laws_szPattern.f (k:Nat) (a0_0:Bool) (a0_1:ByteArray) (l0_2:List (S160)) (a1:Int):Option (Int):=if (wrap64 (a1-(a0_1.size:Int)))<0 then (some (-1)) else ((laws_szTermS.f k l0_2 (wrap64 (a1-(a0_1.size:Int)))).bind fun t107=>(if t107<0 then (some (-1)) else (some t107)))
theorem laws_szPattern.mono:∀a0 a1 a2 a3 k,LeO (laws_szPattern.f k a0 a1 a2 a3) (laws_szPattern.f (k+1) a0 a1 a2 a3):=by
 intro a0 a1 a2 a3 k;unfold laws_szPattern.f
 repeat' with_reducible first|apply laws_szTermS.mono|apply LeO.refl|apply LeO.none|refine LeO.ite ?_ ?_|refine LeO.bind ?_ (fun _=>?_)
theorem u57e_2 {p:Prop} (h:p:=by
 obtain rfl:=oi_ H;go_enter Tryz.func66,Tryz.ntmps66;go_wp2_with (first|((with_reducible refine gate_dst (N:=2) rfl ?_);refine bh_ 2 #[.bool a0_0,.string a0_1,.slice A0_2 l0_2.length c0_2] 112 HB ?_;intro gb106 hg wx BK106 GE106 hb;replace HB:=ms_ HB hb;clear hb hg;replace hz106:=cz3 BK106)|((with_reducible refine gate_callee (f:=85) rfl ?_);refine goesL_ (some 15) rfl rfl Tryz.func85 (by kernel_rfl) rfl #[.slice A0_2 l0_2.length c0_2,.int .i64 (wrap64 (a1-(a0_1.size:Int)))] rfl mw_ ?_;(with_reducible refine (laws_szTermS.calls k _ _ l0_2 (wrap64 (a1-(a0_1.size:Int))) t107 _ ?side1 HC0_2.out A6.out).mono ?_);(case side1=>exact mt_ HR0_2 HB);rintro e wx ⟨rfl,hb⟩;refine ⟨_,rfl,?_⟩;replace BK106:=mk_ BK106 hb;replace HB:=ms_ HB hb;(try clear hb)));go_ret;exact ⟨me_,mb_ HB⟩):p:=h
set_option maxHeartbeats 8000000 in
set_option maxRecDepth 100000 in
theorem laws_szPattern.calls (k:Nat) (a0_0:Bool) (a0_1:ByteArray) (A0_2:Option Addr) (c0_2:Nat) (l0_2:List (S160)) (a1:Int) (r:Int) (w:World) (hr0_2:Kd.C k160 w A0_2 l0_2.length l0_2) (hc0_2:l0_2.length≤c0_2) (h:laws_szPattern.f k a0_0 a0_1 l0_2 a1=some r):
  Calls Tryz.prog 66 #[.agg #[.bool a0_0,.string a0_1,.slice A0_2 l0_2.length c0_2],.int .i64 a1] w fun e w'=>e=.returned (.int .i64 r)∧Below w.heap.size w w':=by
 have hu112:=Tryz.underlying112;have HR0_2:=a_ hr0_2;have HC0_2:=a_ hc0_2;clear hr0_2 hc0_2;have HB:=a_ (Below.refl w.heap.size w);have H:=h;unfold laws_szPattern.f at H
 clear h;by_cases c3:(wrap64 (a1-(a0_1.size:Int)))<0
 ·rw [if_pos c3] at H;have c3b0:=ct_ c3;clear c3;exact u57e_2
 ·rw [if_neg c3] at H;have c3b0:=cf_ c3;clear c3;obtain ⟨t107,A6,H⟩:=ob_ H;by_cases c7:t107<0
  ·rw [if_pos c7] at H;have c7b0:=ct_ c7;clear c7;exact u57e_2
  ·rw [if_neg c7] at H;have c7b0:=cf_ c7;clear c7;exact u57e_2
def laws_szPatternS.l0:Nat→List (S112)→Int→Int→Option (Int)
 | 0,_,_,_=>none
 | k+1,x0,x1,x5=>if x5<(x0.length:Int) then (if 0≤x5 then ((laws_szPattern.f k ((rd_T112 x0 x5).f0) ((rd_T112 x0 x5).f1) ((rd_T112 x0 x5).f2) x1).bind fun t109=>(if t109<0 then (some (-1)) else (laws_szPatternS.l0 k x0 t109 (wrap64 (x5+1))))) else (none)) else (some x1)
def laws_szPatternS.f (k:Nat) (l0:List (S112)) (a1:Int):Option (Int):=if (wrap64 (a1-(l0.length:Int)))<0 then (some (-1)) else (laws_szPatternS.l0 k l0 (wrap64 (a1-(l0.length:Int))) 0)
theorem laws_szPatternS.mono_l:∀k,(∀y0 y1 y2,LeO (laws_szPatternS.l0 k y0 y1 y2) (laws_szPatternS.l0 (k+1) y0 y1 y2))
 | 0=>fun _ _ _ r h=>by simp [laws_szPatternS.l0] at h
 | k+1=>by
  have ih0:=laws_szPatternS.mono_l k
  ·intro y0 y1 y2;unfold laws_szPatternS.l0
   repeat' with_reducible first|apply ih0|apply laws_szPattern.mono|apply LeO.refl|apply LeO.none|refine LeO.ite ?_ ?_|refine LeO.bind ?_ (fun _=>?_)
theorem laws_szPatternS.mono:∀a0 a1 k,LeO (laws_szPatternS.f k a0 a1) (laws_szPatternS.f (k+1) a0 a1):=by
 intro a0 a1 k;have ih0:=laws_szPatternS.mono_l k;unfold laws_szPatternS.f
 repeat' with_reducible first|apply ih0|apply laws_szPattern.mono|apply LeO.refl|apply LeO.none|refine LeO.ite ?_ ?_|refine LeO.bind ?_ (fun _=>?_)
set_option maxHeartbeats 8000000 in
set_option maxRecDepth 100000 in
theorem laws_szPatternS.calls (k:Nat) (A0:Option Addr) (c0:Nat) (l0:List (S112)) (a1:Int) (r:Int) (w:World) (hr0:Kd.C k112 w A0 l0.length l0) (hc0:l0.length≤c0) (h:laws_szPatternS.f k l0 a1=some r):
  Calls Tryz.prog 46 #[.slice A0 l0.length c0,.int .i64 a1] w fun e w'=>e=.returned (.int .i64 r)∧Below w.heap.size w w':=by
 have hu112:=Tryz.underlying112;have HR0:=a_ hr0;have HC0:=a_ hc0;clear hr0 hc0;have HB:=a_ (Below.refl w.heap.size w);have H:=h;unfold laws_szPatternS.f at H
 clear h;by_cases c3:(wrap64 (a1-(l0.length:Int)))<0
 ·rw [if_pos c3] at H;have c3b0:=ct_ c3;clear c3;obtain rfl:=oi_ H;go_enter Tryz.func46,Tryz.ntmps46;go_wp2;go_ret;exact ⟨me_,mb_ HB⟩
 ·rw [if_neg c3] at H;have c3b0:=cf_ c3;clear c3;have H':=a_ H;clear H;go_enter Tryz.func46,Tryz.ntmps46;go_wp2;go_loopg [1,5] k (fun kq v1 v5 w'=>∃(x1_1:Int) (x5_1:Int),v1=.int .i64 x1_1∧v5=.int .i64 x5_1∧Aside0 (laws_szPatternS.l0 kq l0 x1_1 x5_1=some r)∧Aside0 (kq≤k)∧Aside0 (Below w.heap.size w w'))
  case atStart=>exact ⟨(wrap64 (a1-(l0.length:Int))),(0),mq_,mq_,H',⟨Nat.le_refl _⟩,⟨mb_ HB⟩⟩
  clear H';(try clear c3b0);obtain ⟨x1_1,x5_1,rfl,rfl,HA,HK1,HB⟩:=hrel;obtain _|k1:=gk
  ·exact absurd HA.out (by simp [laws_szPatternS.l0])
  have H:=HA.out;clear HA;simp only [laws_szPatternS.l0] at H;by_cases c4:x5_1<(l0.length:Int)
  ·rw [if_pos c4] at H;have c4b0:=ct_ c4;clear c4;by_cases c5:0≤x5_1
   case neg=>
    rw [if_neg c5] at H;cases H
   rw [if_pos c5] at H;have c5b0:=ct_ c5;clear c5;obtain ⟨t109,A6,H⟩:=ob_ H;by_cases c7:t109<0
   ·rw [if_pos c7] at H;have c7b0:=ct_ c7;clear c7;obtain rfl:=oi_ H;have p108:0≤(x5_1:Int):=md_
    have q108:x5_1<(l0.length:Int):=md_
    obtain ⟨ad108,A108_2,c108_2,e108,hx108_0,hx108_1,hx108_2,hl108_2,hi108_2⟩:=at_T112 HR0.out x5_1 p108 q108;cases e108;replace hx108_0:=mx_ HB hx108_0;replace hx108_1:=mx_ HB hx108_1;replace hx108_2:=mx_ HB hx108_2;have HR108_2:=a_ hi108_2;have HC108_2:=a_ hl108_2;clear hi108_2 hl108_2;replace p108:=eq_true p108;replace q108:=eq_true q108;go_wp2_with (first|((with_reducible refine gate_callee (f:=66) rfl ?_);refine goesL_ (some 23) rfl rfl Tryz.func66 (by kernel_rfl) rfl #[.agg #[.bool ((rd_T112 l0 x5_1).f0),.string ((rd_T112 l0 x5_1).f1),.slice A108_2 ((rd_T112 l0 x5_1).f2).length c108_2],.int .i64 x1_1] rfl mw_ ?_;(with_reducible refine (laws_szPattern.calls k1 ((rd_T112 l0 x5_1).f0) ((rd_T112 l0 x5_1).f1) _ _ ((rd_T112 l0 x5_1).f2) x1_1 t109 _ ?side1 HC108_2.out A6.out).mono ?_);(case side1=>exact mt_ HR108_2 HB);rintro e wx ⟨rfl,hb⟩;refine ⟨_,rfl,?_⟩;replace HB:=ms_ HB hb;(try clear hb)));go_ret;exact ⟨me_,mb_ HB⟩
   ·rw [if_neg c7] at H;have c7b0:=cf_ c7;clear c7;have H':=a_ H;clear H;have p108:0≤(x5_1:Int):=md_
    have q108:x5_1<(l0.length:Int):=md_
    obtain ⟨ad108,A108_2,c108_2,e108,hx108_0,hx108_1,hx108_2,hl108_2,hi108_2⟩:=at_T112 HR0.out x5_1 p108 q108;cases e108;replace hx108_0:=mx_ HB hx108_0;replace hx108_1:=mx_ HB hx108_1;replace hx108_2:=mx_ HB hx108_2;have HR108_2:=a_ hi108_2;have HC108_2:=a_ hl108_2;clear hi108_2 hl108_2;replace p108:=eq_true p108;replace q108:=eq_true q108;go_wp2_with (first|((with_reducible refine gate_callee (f:=66) rfl ?_);refine goesL_ (some 23) rfl rfl Tryz.func66 (by kernel_rfl) rfl #[.agg #[.bool ((rd_T112 l0 x5_1).f0),.string ((rd_T112 l0 x5_1).f1),.slice A108_2 ((rd_T112 l0 x5_1).f2).length c108_2],.int .i64 x1_1] rfl mw_ ?_;(with_reducible refine (laws_szPattern.calls k1 ((rd_T112 l0 x5_1).f0) ((rd_T112 l0 x5_1).f1) _ _ ((rd_T112 l0 x5_1).f2) x1_1 t109 _ ?side1 HC108_2.out A6.out).mono ?_);(case side1=>exact mt_ HR108_2 HB);rintro e wx ⟨rfl,hb⟩;refine ⟨_,rfl,?_⟩;replace HB:=ms_ HB hb;(try clear hb)));go_roundg k1
    case measure=>
     have:=HK1.out
     omega
    case rel=>exact ⟨(t109),(wrap64 (x5_1+1)),mq_,mq_,H',⟨by have:=HK1.out;omega⟩,⟨mb_ HB⟩⟩
  ·rw [if_neg c4] at H;have c4b0:=cf_ c4;clear c4;obtain rfl:=oi_ H;go_wp2;go_ret;exact ⟨me_,mb_ HB⟩
def laws_szExpr.f (a0_0:Int) (a0_1:Int) (a0_2:ByteArray) (a0_3:Int) (a0_4:Int) (a0_5:ByteArray) (a0_6:Int) (a0_7:Int) (a1:Int):Option (Int):=if (wrap64 (a1-(a0_2.size:Int)))<0 then (some (-1)) else ((laws_szValue.f a0_3 a0_4 a0_5 (wrap64 (a1-(a0_2.size:Int)))).bind fun t111=>(if t111<0 then (some (-1)) else (some t111)))
theorem u57e_3 {p:Prop} (h:p:=by
 obtain rfl:=oi_ H;go_enter Tryz.func67,Tryz.ntmps67;go_wp2_with (first|((with_reducible refine gate_dst (N:=2) rfl ?_);refine bh_ 2 #[.int .i64 a0_0,.int .u8 a0_1,.string a0_2,.int .i64 a0_3,.int .i64 a0_4,.string a0_5,.int .i64 a0_6,.int .i64 a0_7] 116 HB ?_;intro gb110 hg wx BK110 GE110 hb;replace HB:=ms_ HB hb;clear hb hg;replace hz110:=cz8 BK110)|((with_reducible refine gate_callee (f:=86) rfl ?_);refine goesL_ (some 15) rfl rfl Tryz.func86 (by kernel_rfl) rfl #[.agg #[.int .i64 a0_3,.int .i64 a0_4,.string a0_5],.int .i64 (wrap64 (a1-(a0_2.size:Int)))] rfl mw_ ?_;(with_reducible refine (laws_szValue.calls a0_3 a0_4 a0_5 (wrap64 (a1-(a0_2.size:Int))) t111 _ A6.out).mono ?_);rintro e wx ⟨rfl,hb⟩;refine ⟨_,rfl,?_⟩;replace BK110:=mk_ BK110 hb;replace HB:=ms_ HB hb;(try clear hb)));go_ret;exact ⟨me_,mb_ HB⟩):p:=h
set_option maxHeartbeats 8000000 in
set_option maxRecDepth 100000 in
theorem laws_szExpr.calls (a0_0:Int) (a0_1:Int) (a0_2:ByteArray) (a0_3:Int) (a0_4:Int) (a0_5:ByteArray) (a0_6:Int) (a0_7:Int) (a1:Int) (r:Int) (w:World) (h:laws_szExpr.f a0_0 a0_1 a0_2 a0_3 a0_4 a0_5 a0_6 a0_7 a1=some r):
  Calls Tryz.prog 67 #[.agg #[.int .i64 a0_0,.int .u8 a0_1,.string a0_2,.int .i64 a0_3,.int .i64 a0_4,.string a0_5,.int .i64 a0_6,.int .i64 a0_7],.int .i64 a1] w fun e w'=>e=.returned (.int .i64 r)∧Below w.heap.size w w':=by
 have hu116:=Tryz.underlying116;have hu114:=Tryz.underlying114;have HB:=a_ (Below.refl w.heap.size w);have H:=h;unfold laws_szExpr.f at H
 clear h;by_cases c3:(wrap64 (a1-(a0_2.size:Int)))<0
 ·rw [if_pos c3] at H;have c3b0:=ct_ c3;clear c3;exact u57e_3
 ·rw [if_neg c3] at H;have c3b0:=cf_ c3;clear c3;obtain ⟨t111,A6,H⟩:=ob_ H;by_cases c7:t111<0
  ·rw [if_pos c7] at H;have c7b0:=ct_ c7;clear c7;exact u57e_3
  ·rw [if_neg c7] at H;have c7b0:=cf_ c7;clear c7;exact u57e_3
def laws_szExprS.l0:Nat→List (S116)→Int→Int→Option (Int)
 | 0,_,_,_=>none
 | k+1,x0,x1,x5=>if x5<(x0.length:Int) then (if 0≤x5 then ((laws_szExpr.f ((rd_T116 x0 x5).f0) ((rd_T116 x0 x5).f1) ((rd_T116 x0 x5).f2) ((rd_T116 x0 x5).f3.f0) ((rd_T116 x0 x5).f3.f1) ((rd_T116 x0 x5).f3.f2) ((rd_T116 x0 x5).f4) ((rd_T116 x0 x5).f5) x1).bind fun t113=>(if t113<0 then (some (-1)) else (laws_szExprS.l0 k x0 t113 (wrap64 (x5+1))))) else (none)) else (some x1)
def laws_szExprS.f (k:Nat) (l0:List (S116)) (a1:Int):Option (Int):=if (wrap64 (a1-(l0.length:Int)))<0 then (some (-1)) else (laws_szExprS.l0 k l0 (wrap64 (a1-(l0.length:Int))) 0)
theorem laws_szExprS.mono_l:∀k,(∀y0 y1 y2,LeO (laws_szExprS.l0 k y0 y1 y2) (laws_szExprS.l0 (k+1) y0 y1 y2))
 | 0=>fun _ _ _ r h=>by simp [laws_szExprS.l0] at h
 | k+1=>by
  have ih0:=laws_szExprS.mono_l k
  ·intro y0 y1 y2;unfold laws_szExprS.l0
   repeat' with_reducible first|apply ih0|apply LeO.refl|apply LeO.none|refine LeO.ite ?_ ?_|refine LeO.bind ?_ (fun _=>?_)
theorem laws_szExprS.mono:∀a0 a1 k,LeO (laws_szExprS.f k a0 a1) (laws_szExprS.f (k+1) a0 a1):=by
 intro a0 a1 k;have ih0:=laws_szExprS.mono_l k;unfold laws_szExprS.f
 repeat' with_reducible first|apply ih0|apply LeO.refl|apply LeO.none|refine LeO.ite ?_ ?_|refine LeO.bind ?_ (fun _=>?_)
set_option maxHeartbeats 8000000 in
set_option maxRecDepth 100000 in
theorem laws_szExprS.calls (k:Nat) (A0:Option Addr) (c0:Nat) (l0:List (S116)) (a1:Int) (r:Int) (w:World) (hr0:Kd.C k116 w A0 l0.length l0) (hc0:l0.length≤c0) (h:laws_szExprS.f k l0 a1=some r):
  Calls Tryz.prog 47 #[.slice A0 l0.length c0,.int .i64 a1] w fun e w'=>e=.returned (.int .i64 r)∧Below w.heap.size w w':=by
 have hu116:=Tryz.underlying116;have HR0:=a_ hr0;have HC0:=a_ hc0;clear hr0 hc0;have HB:=a_ (Below.refl w.heap.size w);have H:=h;unfold laws_szExprS.f at H
 clear h;by_cases c3:(wrap64 (a1-(l0.length:Int)))<0
 ·rw [if_pos c3] at H;have c3b0:=ct_ c3;clear c3;obtain rfl:=oi_ H;go_enter Tryz.func47,Tryz.ntmps47;go_wp2;go_ret;exact ⟨me_,mb_ HB⟩
 ·rw [if_neg c3] at H;have c3b0:=cf_ c3;clear c3;have H':=a_ H;clear H;go_enter Tryz.func47,Tryz.ntmps47;go_wp2;go_loopg [1,5] k (fun kq v1 v5 w'=>∃(x1_1:Int) (x5_1:Int),v1=.int .i64 x1_1∧v5=.int .i64 x5_1∧Aside0 (laws_szExprS.l0 kq l0 x1_1 x5_1=some r)∧Aside0 (kq≤k)∧Aside0 (Below w.heap.size w w'))
  case atStart=>exact ⟨(wrap64 (a1-(l0.length:Int))),(0),mq_,mq_,H',⟨Nat.le_refl _⟩,⟨mb_ HB⟩⟩
  clear H';(try clear c3b0);obtain ⟨x1_1,x5_1,rfl,rfl,HA,HK1,HB⟩:=hrel;obtain _|k1:=gk
  ·exact absurd HA.out (by simp [laws_szExprS.l0])
  have H:=HA.out;clear HA;simp only [laws_szExprS.l0] at H;by_cases c4:x5_1<(l0.length:Int)
  ·rw [if_pos c4] at H;have c4b0:=ct_ c4;clear c4;by_cases c5:0≤x5_1
   case neg=>
    rw [if_neg c5] at H;cases H
   rw [if_pos c5] at H;have c5b0:=ct_ c5;clear c5;obtain ⟨t113,A6,H⟩:=ob_ H;by_cases c7:t113<0
   ·rw [if_pos c7] at H;have c7b0:=ct_ c7;clear c7;obtain rfl:=oi_ H;have p112:0≤(x5_1:Int):=md_
    have q112:x5_1<(l0.length:Int):=md_
    obtain ⟨ad112,e112,hx112_0,hx112_1,hx112_2,hx112_3,hx112_4,hx112_5,hx112_6,hx112_7⟩:=at_T116 HR0.out x5_1 p112 q112;cases e112;replace hx112_0:=mx_ HB hx112_0;replace hx112_1:=mx_ HB hx112_1;replace hx112_2:=mx_ HB hx112_2;replace hx112_3:=mx_ HB hx112_3;replace hx112_4:=mx_ HB hx112_4;replace hx112_5:=mx_ HB hx112_5;replace hx112_6:=mx_ HB hx112_6;replace hx112_7:=mx_ HB hx112_7;replace p112:=eq_true p112;replace q112:=eq_true q112;go_wp2_with (first|((with_reducible refine gate_callee (f:=67) rfl ?_);refine goesL_ (some 23) rfl rfl Tryz.func67 (by kernel_rfl) rfl #[.agg #[.int .i64 ((rd_T116 l0 x5_1).f0),.int .u8 ((rd_T116 l0 x5_1).f1),.string ((rd_T116 l0 x5_1).f2),.int .i64 ((rd_T116 l0 x5_1).f3.f0),.int .i64 ((rd_T116 l0 x5_1).f3.f1),.string ((rd_T116 l0 x5_1).f3.f2),.int .i64 ((rd_T116 l0 x5_1).f4),.int .i64 ((rd_T116 l0 x5_1).f5)],.int .i64 x1_1] rfl mw_ ?_;(with_reducible refine (laws_szExpr.calls ((rd_T116 l0 x5_1).f0) ((rd_T116 l0 x5_1).f1) ((rd_T116 l0 x5_1).f2) ((rd_T116 l0 x5_1).f3.f0) ((rd_T116 l0 x5_1).f3.f1) ((rd_T116 l0 x5_1).f3.f2) ((rd_T116 l0 x5_1).f4) ((rd_T116 l0 x5_1).f5) x1_1 t113 _ A6.out).mono ?_);rintro e wx ⟨rfl,hb⟩;refine ⟨_,rfl,?_⟩;replace HB:=ms_ HB hb;(try clear hb)));go_ret;exact ⟨me_,mb_ HB⟩
   ·rw [if_neg c7] at H;have c7b0:=cf_ c7;clear c7;have H':=a_ H;clear H;have p112:0≤(x5_1:Int):=md_
    have q112:x5_1<(l0.length:Int):=md_
    obtain ⟨ad112,e112,hx112_0,hx112_1,hx112_2,hx112_3,hx112_4,hx112_5,hx112_6,hx112_7⟩:=at_T116 HR0.out x5_1 p112 q112;cases e112;replace hx112_0:=mx_ HB hx112_0;replace hx112_1:=mx_ HB hx112_1;replace hx112_2:=mx_ HB hx112_2;replace hx112_3:=mx_ HB hx112_3;replace hx112_4:=mx_ HB hx112_4;replace hx112_5:=mx_ HB hx112_5;replace hx112_6:=mx_ HB hx112_6;replace hx112_7:=mx_ HB hx112_7;replace p112:=eq_true p112;replace q112:=eq_true q112;go_wp2_with (first|((with_reducible refine gate_callee (f:=67) rfl ?_);refine goesL_ (some 23) rfl rfl Tryz.func67 (by kernel_rfl) rfl #[.agg #[.int .i64 ((rd_T116 l0 x5_1).f0),.int .u8 ((rd_T116 l0 x5_1).f1),.string ((rd_T116 l0 x5_1).f2),.int .i64 ((rd_T116 l0 x5_1).f3.f0),.int .i64 ((rd_T116 l0 x5_1).f3.f1),.string ((rd_T116 l0 x5_1).f3.f2),.int .i64 ((rd_T116 l0 x5_1).f4),.int .i64 ((rd_T116 l0 x5_1).f5)],.int .i64 x1_1] rfl mw_ ?_;(with_reducible refine (laws_szExpr.calls ((rd_T116 l0 x5_1).f0) ((rd_T116 l0 x5_1).f1) ((rd_T116 l0 x5_1).f2) ((rd_T116 l0 x5_1).f3.f0) ((rd_T116 l0 x5_1).f3.f1) ((rd_T116 l0 x5_1).f3.f2) ((rd_T116 l0 x5_1).f4) ((rd_T116 l0 x5_1).f5) x1_1 t113 _ A6.out).mono ?_);rintro e wx ⟨rfl,hb⟩;refine ⟨_,rfl,?_⟩;replace HB:=ms_ HB hb;(try clear hb)));go_roundg k1
    case measure=>
     have:=HK1.out
     omega
    case rel=>exact ⟨(t113),(wrap64 (x5_1+1)),mq_,mq_,H',⟨by have:=HK1.out;omega⟩,⟨mb_ HB⟩⟩
  ·rw [if_neg c4] at H;have c4b0:=cf_ c4;clear c4;obtain rfl:=oi_ H;go_wp2;go_ret;exact ⟨me_,mb_ HB⟩
def laws_szIntS.f (l0:List Int) (a1:Int):Option (Int):=if (wrap64 (a1-(l0.length:Int)))<0 then (some (-1)) else (some (wrap64 (a1-(l0.length:Int))))
theorem u57e_4 {p:Prop} (h:p:=by
 clear c3;obtain rfl:=oi_ H;go_enter Tryz.func22,Tryz.ntmps22;go_wp2;go_ret;exact ⟨by first|rfl|(simp;done)|(simp [*];done),by repeat (first|exact Drawn0.refl _|apply Drawn0.step)⟩):p:=h
set_option maxHeartbeats 8000000 in
set_option maxRecDepth 100000 in
theorem laws_szIntS.calls (A0:Option Addr) (c0:Nat) (l0:List Int) (a1:Int) (r:Int) (w:World) (hr0:Kd.C (Kd.int .i64) w A0 l0.length l0) (hc0:l0.length≤c0) (h:laws_szIntS.f l0 a1=some r):
  Calls Tryz.prog 22 #[.slice A0 l0.length c0,.int .i64 a1] w fun e w'=>e=.returned (.int .i64 r)∧Drawn0 w w':=by
 have HR0:=a_ hr0;have HC0:=a_ hc0;clear hr0 hc0;have H:=h;unfold laws_szIntS.f at H
 clear h;by_cases c3:(wrap64 (a1-(l0.length:Int)))<0
 ·rw [if_pos c3] at H;have c3b0:=ct_ c3;exact u57e_4
 ·rw [if_neg c3] at H;have c3b0:=cf_ c3;exact u57e_4
def laws_szAction.f (a0_0:Int) (a0_1:Int) (a0_2:ByteArray) (l0_3:List Int) (a1:Int):Option (Int):=if (wrap64 (a1-(a0_2.size:Int)))<0 then (some (-1)) else ((laws_szIntS.f l0_3 (wrap64 (a1-(a0_2.size:Int)))).bind fun t115=>(if t115<0 then (some (-1)) else (some t115)))
theorem u57e_5 {p:Prop} (h:p:=by
 obtain rfl:=oi_ H;go_enter Tryz.func68,Tryz.ntmps68;go_wp2_with (first|((with_reducible refine gate_dst (N:=2) rfl ?_);refine bh_ 2 #[.int .i64 a0_0,.int .i64 a0_1,.string a0_2,.slice A0_3 l0_3.length c0_3] 118 HB ?_;intro gb114 hg wx BK114 GE114 hb;replace HB:=ms_ HB hb;clear hb hg;replace hz114:=cz4 BK114)|((with_reducible refine gate_callee (f:=22) rfl ?_);refine goesL_ (some 15) rfl rfl Tryz.func22 (by kernel_rfl) rfl #[.slice A0_3 l0_3.length c0_3,.int .i64 (wrap64 (a1-(a0_2.size:Int)))] rfl mw_ ?_;(with_reducible refine (laws_szIntS.calls _ _ l0_3 (wrap64 (a1-(a0_2.size:Int))) t115 _ ?side1 HC0_3.out A6.out).mono ?_);(case side1=>exact mt_ HR0_3 HB);rintro e w' ⟨rfl,⟨nd,rfl⟩⟩;refine ⟨_,rfl,?_⟩));go_ret;exact ⟨me_,mb_ HB⟩):p:=h
set_option maxHeartbeats 8000000 in
set_option maxRecDepth 100000 in
theorem laws_szAction.calls (a0_0:Int) (a0_1:Int) (a0_2:ByteArray) (A0_3:Option Addr) (c0_3:Nat) (l0_3:List Int) (a1:Int) (r:Int) (w:World) (hr0_3:Kd.C (Kd.int .i64) w A0_3 l0_3.length l0_3) (hc0_3:l0_3.length≤c0_3) (h:laws_szAction.f a0_0 a0_1 a0_2 l0_3 a1=some r):
  Calls Tryz.prog 68 #[.agg #[.int .i64 a0_0,.int .i64 a0_1,.string a0_2,.slice A0_3 l0_3.length c0_3],.int .i64 a1] w fun e w'=>e=.returned (.int .i64 r)∧Below w.heap.size w w':=by
 have hu118:=Tryz.underlying118;have HR0_3:=a_ hr0_3;have HC0_3:=a_ hc0_3;clear hr0_3 hc0_3;have HB:=a_ (Below.refl w.heap.size w);have H:=h;unfold laws_szAction.f at H
 clear h;by_cases c3:(wrap64 (a1-(a0_2.size:Int)))<0
 ·rw [if_pos c3] at H;have c3b0:=ct_ c3;clear c3;exact u57e_5
 ·rw [if_neg c3] at H;have c3b0:=cf_ c3;clear c3;obtain ⟨t115,A6,H⟩:=ob_ H;by_cases c7:t115<0
  ·rw [if_pos c7] at H;have c7b0:=ct_ c7;clear c7;exact u57e_5
  ·rw [if_neg c7] at H;have c7b0:=cf_ c7;clear c7;exact u57e_5
end Go.Proofs.YtejjlkbbnhpbdaaGreat.P
namespace Go.Proofs.YtejjlkbbnhpbdaaGreat.P
open Go.Proofs.YtejjlkbbnhpbdaaGreatX
open Go.RowKit Go.Proofs.YtejjlkbbnhpbdaaGreatW.PrintWords Go.Proofs.YtejjlkbbnhpbdaaGreatW.PrintLast Go.Proofs.YtejjlkbbnhpbdaaGreatW.PrintMore
attribute [local go_sem] max2_int min2_int max_two min_two max_three min_three max_four min_four
set_option linter.unusedVariables false
set_option linter.unusedSimpArgs false
def laws_szActionS.l0:Nat→List (S118)→Int→Int→Option (Int)
 | 0,_,_,_=>none
 | k+1,x0,x1,x5=>if x5<(x0.length:Int) then (if 0≤x5 then ((laws_szAction.f ((rd_T118 x0 x5).f0) ((rd_T118 x0 x5).f1) ((rd_T118 x0 x5).f2) ((rd_T118 x0 x5).f3) x1).bind fun t117=>(if t117<0 then (some (-1)) else (laws_szActionS.l0 k x0 t117 (wrap64 (x5+1))))) else (none)) else (some x1)
def laws_szActionS.f (k:Nat) (l0:List (S118)) (a1:Int):Option (Int):=if (wrap64 (a1-(l0.length:Int)))<0 then (some (-1)) else (laws_szActionS.l0 k l0 (wrap64 (a1-(l0.length:Int))) 0)
theorem laws_szActionS.mono_l:∀k,(∀y0 y1 y2,LeO (laws_szActionS.l0 k y0 y1 y2) (laws_szActionS.l0 (k+1) y0 y1 y2))
 | 0=>fun _ _ _ r h=>by simp [laws_szActionS.l0] at h
 | k+1=>by
  have ih0:=laws_szActionS.mono_l k
  ·intro y0 y1 y2;unfold laws_szActionS.l0
   repeat' with_reducible first|apply ih0|apply LeO.refl|apply LeO.none|refine LeO.ite ?_ ?_|refine LeO.bind ?_ (fun _=>?_)
theorem laws_szActionS.mono:∀a0 a1 k,LeO (laws_szActionS.f k a0 a1) (laws_szActionS.f (k+1) a0 a1):=by
 intro a0 a1 k;have ih0:=laws_szActionS.mono_l k;unfold laws_szActionS.f
 repeat' with_reducible first|apply ih0|apply LeO.refl|apply LeO.none|refine LeO.ite ?_ ?_|refine LeO.bind ?_ (fun _=>?_)
set_option maxHeartbeats 8000000 in
set_option maxRecDepth 100000 in
theorem laws_szActionS.calls (k:Nat) (A0:Option Addr) (c0:Nat) (l0:List (S118)) (a1:Int) (r:Int) (w:World) (hr0:Kd.C k118 w A0 l0.length l0) (hc0:l0.length≤c0) (h:laws_szActionS.f k l0 a1=some r):
  Calls Tryz.prog 48 #[.slice A0 l0.length c0,.int .i64 a1] w fun e w'=>e=.returned (.int .i64 r)∧Below w.heap.size w w':=by
 have hu118:=Tryz.underlying118;have HR0:=a_ hr0;have HC0:=a_ hc0;clear hr0 hc0;have HB:=a_ (Below.refl w.heap.size w);have H:=h;unfold laws_szActionS.f at H
 clear h;by_cases c3:(wrap64 (a1-(l0.length:Int)))<0
 ·rw [if_pos c3] at H;have c3b0:=ct_ c3;clear c3;obtain rfl:=oi_ H;go_enter Tryz.func48,Tryz.ntmps48;go_wp2;go_ret;exact ⟨me_,mb_ HB⟩
 ·rw [if_neg c3] at H;have c3b0:=cf_ c3;clear c3;have H':=a_ H;clear H;go_enter Tryz.func48,Tryz.ntmps48;go_wp2;go_loopg [1,5] k (fun kq v1 v5 w'=>∃(x1_1:Int) (x5_1:Int),v1=.int .i64 x1_1∧v5=.int .i64 x5_1∧Aside0 (laws_szActionS.l0 kq l0 x1_1 x5_1=some r)∧Aside0 (kq≤k)∧Aside0 (Below w.heap.size w w'))
  case atStart=>exact ⟨(wrap64 (a1-(l0.length:Int))),(0),mq_,mq_,H',⟨Nat.le_refl _⟩,⟨mb_ HB⟩⟩
  clear H';(try clear c3b0);obtain ⟨x1_1,x5_1,rfl,rfl,HA,HK1,HB⟩:=hrel;obtain _|k1:=gk
  ·exact absurd HA.out (by simp [laws_szActionS.l0])
  have H:=HA.out;clear HA;simp only [laws_szActionS.l0] at H;by_cases c4:x5_1<(l0.length:Int)
  ·rw [if_pos c4] at H;have c4b0:=ct_ c4;clear c4;by_cases c5:0≤x5_1
   case neg=>
    rw [if_neg c5] at H;cases H
   rw [if_pos c5] at H;have c5b0:=ct_ c5;clear c5;obtain ⟨t117,A6,H⟩:=ob_ H;by_cases c7:t117<0
   ·rw [if_pos c7] at H;have c7b0:=ct_ c7;clear c7;obtain rfl:=oi_ H;have p116:0≤(x5_1:Int):=md_
    have q116:x5_1<(l0.length:Int):=md_
    obtain ⟨ad116,A116_3,c116_3,e116,hx116_0,hx116_1,hx116_2,hx116_3,hl116_3,hi116_3⟩:=at_T118 HR0.out x5_1 p116 q116;cases e116;replace hx116_0:=mx_ HB hx116_0;replace hx116_1:=mx_ HB hx116_1;replace hx116_2:=mx_ HB hx116_2;replace hx116_3:=mx_ HB hx116_3;have HR116_3:=a_ hi116_3;have HC116_3:=a_ hl116_3;clear hi116_3 hl116_3;replace p116:=eq_true p116;replace q116:=eq_true q116;go_wp2_with (first|((with_reducible refine gate_callee (f:=68) rfl ?_);refine goesL_ (some 23) rfl rfl Tryz.func68 (by kernel_rfl) rfl #[.agg #[.int .i64 ((rd_T118 l0 x5_1).f0),.int .i64 ((rd_T118 l0 x5_1).f1),.string ((rd_T118 l0 x5_1).f2),.slice A116_3 ((rd_T118 l0 x5_1).f3).length c116_3],.int .i64 x1_1] rfl mw_ ?_;(with_reducible refine (laws_szAction.calls ((rd_T118 l0 x5_1).f0) ((rd_T118 l0 x5_1).f1) ((rd_T118 l0 x5_1).f2) _ _ ((rd_T118 l0 x5_1).f3) x1_1 t117 _ ?side1 HC116_3.out A6.out).mono ?_);(case side1=>exact mt_ HR116_3 HB);rintro e wx ⟨rfl,hb⟩;refine ⟨_,rfl,?_⟩;replace HB:=ms_ HB hb;(try clear hb)));go_ret;exact ⟨me_,mb_ HB⟩
   ·rw [if_neg c7] at H;have c7b0:=cf_ c7;clear c7;have H':=a_ H;clear H;have p116:0≤(x5_1:Int):=md_
    have q116:x5_1<(l0.length:Int):=md_
    obtain ⟨ad116,A116_3,c116_3,e116,hx116_0,hx116_1,hx116_2,hx116_3,hl116_3,hi116_3⟩:=at_T118 HR0.out x5_1 p116 q116;cases e116;replace hx116_0:=mx_ HB hx116_0;replace hx116_1:=mx_ HB hx116_1;replace hx116_2:=mx_ HB hx116_2;replace hx116_3:=mx_ HB hx116_3;have HR116_3:=a_ hi116_3;have HC116_3:=a_ hl116_3;clear hi116_3 hl116_3;replace p116:=eq_true p116;replace q116:=eq_true q116;go_wp2_with (first|((with_reducible refine gate_callee (f:=68) rfl ?_);refine goesL_ (some 23) rfl rfl Tryz.func68 (by kernel_rfl) rfl #[.agg #[.int .i64 ((rd_T118 l0 x5_1).f0),.int .i64 ((rd_T118 l0 x5_1).f1),.string ((rd_T118 l0 x5_1).f2),.slice A116_3 ((rd_T118 l0 x5_1).f3).length c116_3],.int .i64 x1_1] rfl mw_ ?_;(with_reducible refine (laws_szAction.calls ((rd_T118 l0 x5_1).f0) ((rd_T118 l0 x5_1).f1) ((rd_T118 l0 x5_1).f2) _ _ ((rd_T118 l0 x5_1).f3) x1_1 t117 _ ?side1 HC116_3.out A6.out).mono ?_);(case side1=>exact mt_ HR116_3 HB);rintro e wx ⟨rfl,hb⟩;refine ⟨_,rfl,?_⟩;replace HB:=ms_ HB hb;(try clear hb)));go_roundg k1
    case measure=>
     have:=HK1.out
     omega
    case rel=>exact ⟨(t117),(wrap64 (x5_1+1)),mq_,mq_,H',⟨by have:=HK1.out;omega⟩,⟨mb_ HB⟩⟩
  ·rw [if_neg c4] at H;have c4b0:=cf_ c4;clear c4;obtain rfl:=oi_ H;go_wp2;go_ret;exact ⟨me_,mb_ HB⟩
def laws_szRule.f (k:Nat) (a0_0:ByteArray) (a0_1:Int) (l0_2:List (S112)) (l0_3:List (S116)) (l0_4:List (S118)) (a1:Int):Option (Int):=if (wrap64 (a1-(a0_0.size:Int)))<0 then (some (-1)) else ((laws_szPatternS.f k l0_2 (wrap64 (a1-(a0_0.size:Int)))).bind fun t119=>(if t119<0 then (some (-1)) else ((laws_szExprS.f k l0_3 t119).bind fun t120=>(if t120<0 then (some (-1)) else ((laws_szActionS.f k l0_4 t120).bind fun t121=>(if t121<0 then (some (-1)) else (some t121)))))))
theorem laws_szRule.mono:∀a0 a1 a2 a3 a4 a5 k,LeO (laws_szRule.f k a0 a1 a2 a3 a4 a5) (laws_szRule.f (k+1) a0 a1 a2 a3 a4 a5):=by
 intro a0 a1 a2 a3 a4 a5 k;unfold laws_szRule.f
 repeat' with_reducible first|apply laws_szActionS.mono|apply laws_szExprS.mono|apply laws_szPatternS.mono|apply LeO.refl|apply LeO.none|refine LeO.ite ?_ ?_|refine LeO.bind ?_ (fun _=>?_)
theorem u067_0 {p:Prop} (h:p:=by
 obtain rfl:=oi_ H;go_enter Tryz.func21,Tryz.ntmps21;go_wp2_with (first|((with_reducible refine gate_dst (N:=2) rfl ?_);refine bh_ 2 #[.string a0_0,.int .i64 a0_1,.slice A0_2 l0_2.length c0_2,.slice A0_3 l0_3.length c0_3,.slice A0_4 l0_4.length c0_4] 50 HB ?_;intro gb118 hg wx BK118 GE118 hb;replace HB:=ms_ HB hb;clear hb hg;replace hz118:=cz5 BK118)|((with_reducible refine gate_callee (f:=46) rfl ?_);refine goesL_ (some 15) rfl rfl Tryz.func46 (by kernel_rfl) rfl #[.slice A0_2 l0_2.length c0_2,.int .i64 (wrap64 (a1-(a0_0.size:Int)))] rfl mw_ ?_;(with_reducible refine (laws_szPatternS.calls k _ _ l0_2 (wrap64 (a1-(a0_0.size:Int))) t119 _ ?side1 HC0_2.out A6.out).mono ?_);(case side1=>exact mt_ HR0_2 HB);rintro e wx ⟨rfl,hb⟩;refine ⟨_,rfl,?_⟩;replace BK118:=mk_ BK118 hb;replace HB:=ms_ HB hb;(try clear hb);replace hz118:=cz5 BK118)|((with_reducible refine gate_callee (f:=47) rfl ?_);refine goesL_ (some 21) rfl rfl Tryz.func47 (by kernel_rfl) rfl #[.slice A0_3 l0_3.length c0_3,.int .i64 t119] rfl mw_ ?_;(with_reducible refine (laws_szExprS.calls k _ _ l0_3 t119 t120 _ ?side1 HC0_3.out A11.out).mono ?_);(case side1=>exact mt_ HR0_3 HB);rintro e wx ⟨rfl,hb⟩;refine ⟨_,rfl,?_⟩;replace BK118:=mk_ BK118 hb;replace HB:=ms_ HB hb;(try clear hb);replace hz118:=cz5 BK118)|((with_reducible refine gate_callee (f:=48) rfl ?_);refine goesL_ (some 27) rfl rfl Tryz.func48 (by kernel_rfl) rfl #[.slice A0_4 l0_4.length c0_4,.int .i64 t120] rfl mw_ ?_;(with_reducible refine (laws_szActionS.calls k _ _ l0_4 t120 t121 _ ?side1 HC0_4.out A18.out).mono ?_);(case side1=>exact mt_ HR0_4 HB);rintro e wx ⟨rfl,hb⟩;refine ⟨_,rfl,?_⟩;replace BK118:=mk_ BK118 hb;replace HB:=ms_ HB hb;(try clear hb)));go_ret;exact ⟨me_,mb_ HB⟩):p:=h
set_option maxHeartbeats 8000000 in
set_option maxRecDepth 100000 in
theorem laws_szRule.calls (k:Nat) (a0_0:ByteArray) (a0_1:Int) (A0_2:Option Addr) (c0_2:Nat) (l0_2:List (S112)) (A0_3:Option Addr) (c0_3:Nat) (l0_3:List (S116)) (A0_4:Option Addr) (c0_4:Nat) (l0_4:List (S118)) (a1:Int) (r:Int) (w:World) (hr0_2:Kd.C k112 w A0_2 l0_2.length l0_2) (hc0_2:l0_2.length≤c0_2) (hr0_3:Kd.C k116 w A0_3 l0_3.length l0_3) (hc0_3:l0_3.length≤c0_3) (hr0_4:Kd.C k118 w A0_4 l0_4.length l0_4) (hc0_4:l0_4.length≤c0_4) (h:laws_szRule.f k a0_0 a0_1 l0_2 l0_3 l0_4 a1=some r):
  Calls Tryz.prog 21 #[.agg #[.string a0_0,.int .i64 a0_1,.slice A0_2 l0_2.length c0_2,.slice A0_3 l0_3.length c0_3,.slice A0_4 l0_4.length c0_4],.int .i64 a1] w fun e w'=>e=.returned (.int .i64 r)∧Below w.heap.size w w':=by
 have hu50:=Tryz.underlying50;have HR0_2:=a_ hr0_2;have HC0_2:=a_ hc0_2;clear hr0_2 hc0_2;have HR0_3:=a_ hr0_3;have HC0_3:=a_ hc0_3;clear hr0_3 hc0_3;have HR0_4:=a_ hr0_4;have HC0_4:=a_ hc0_4;clear hr0_4 hc0_4;have HB:=a_ (Below.refl w.heap.size w);have H:=h;unfold laws_szRule.f at H
 clear h;by_cases c3:(wrap64 (a1-(a0_0.size:Int)))<0
 ·rw [if_pos c3] at H;have c3b0:=ct_ c3;clear c3;exact u067_0
 ·rw [if_neg c3] at H;have c3b0:=cf_ c3;clear c3;obtain ⟨t119,A6,H⟩:=ob_ H;by_cases c7:t119<0
  ·rw [if_pos c7] at H;have c7b0:=ct_ c7;clear c7;exact u067_0
  ·rw [if_neg c7] at H;have c7b0:=cf_ c7;clear c7;obtain ⟨t120,A11,H⟩:=ob_ H;by_cases c12:t120<0
   ·rw [if_pos c12] at H;have c12b0:=ct_ c12;clear c12;exact u067_0
   ·rw [if_neg c12] at H;have c12b0:=cf_ c12;clear c12;obtain ⟨t121,A18,H⟩:=ob_ H;by_cases c19:t121<0
    ·rw [if_pos c19] at H;have c19b0:=ct_ c19;clear c19;exact u067_0
    ·rw [if_neg c19] at H;have c19b0:=cf_ c19;clear c19;exact u067_0
def laws_szRuleS.l0:Nat→List (S50)→Int→Int→Option (Int)
 | 0,_,_,_=>none
 | k+1,x0,x1,x5=>if x5<(x0.length:Int) then (if 0≤x5 then ((laws_szRule.f k ((rd_T50 x0 x5).f0) ((rd_T50 x0 x5).f1) ((rd_T50 x0 x5).f2) ((rd_T50 x0 x5).f3) ((rd_T50 x0 x5).f4) x1).bind fun t123=>(if t123<0 then (some (-1)) else (laws_szRuleS.l0 k x0 t123 (wrap64 (x5+1))))) else (none)) else (some x1)
def laws_szRuleS.f (k:Nat) (l0:List (S50)) (a1:Int):Option (Int):=if (wrap64 (a1-(l0.length:Int)))<0 then (some (-1)) else (laws_szRuleS.l0 k l0 (wrap64 (a1-(l0.length:Int))) 0)
theorem laws_szRuleS.mono_l:∀k,(∀y0 y1 y2,LeO (laws_szRuleS.l0 k y0 y1 y2) (laws_szRuleS.l0 (k+1) y0 y1 y2))
 | 0=>fun _ _ _ r h=>by simp [laws_szRuleS.l0] at h
 | k+1=>by
  have ih0:=laws_szRuleS.mono_l k
  ·intro y0 y1 y2;unfold laws_szRuleS.l0
   repeat' with_reducible first|apply ih0|apply laws_szRule.mono|apply LeO.refl|apply LeO.none|refine LeO.ite ?_ ?_|refine LeO.bind ?_ (fun _=>?_)
theorem laws_szRuleS.mono:∀a0 a1 k,LeO (laws_szRuleS.f k a0 a1) (laws_szRuleS.f (k+1) a0 a1):=by
 intro a0 a1 k;have ih0:=laws_szRuleS.mono_l k;unfold laws_szRuleS.f
 repeat' with_reducible first|apply ih0|apply laws_szRule.mono|apply LeO.refl|apply LeO.none|refine LeO.ite ?_ ?_|refine LeO.bind ?_ (fun _=>?_)
set_option maxHeartbeats 8000000 in
set_option maxRecDepth 100000 in
theorem laws_szRuleS.calls (k:Nat) (A0:Option Addr) (c0:Nat) (l0:List (S50)) (a1:Int) (r:Int) (w:World) (hr0:Kd.C k50 w A0 l0.length l0) (hc0:l0.length≤c0) (h:laws_szRuleS.f k l0 a1=some r):
  Calls Tryz.prog 5 #[.slice A0 l0.length c0,.int .i64 a1] w fun e w'=>e=.returned (.int .i64 r)∧Below w.heap.size w w':=by
 have hu50:=Tryz.underlying50;have HR0:=a_ hr0;have HC0:=a_ hc0;clear hr0 hc0;have HB:=a_ (Below.refl w.heap.size w);have H:=h;unfold laws_szRuleS.f at H
 clear h;by_cases c3:(wrap64 (a1-(l0.length:Int)))<0
 ·rw [if_pos c3] at H;have c3b0:=ct_ c3;clear c3;obtain rfl:=oi_ H;go_enter Tryz.func5,Tryz.ntmps5;go_wp2;go_ret;exact ⟨me_,mb_ HB⟩
 ·rw [if_neg c3] at H;have c3b0:=cf_ c3;clear c3;have H':=a_ H;clear H;go_enter Tryz.func5,Tryz.ntmps5;go_wp2;go_loopg [1,5] k (fun kq v1 v5 w'=>∃(x1_1:Int) (x5_1:Int),v1=.int .i64 x1_1∧v5=.int .i64 x5_1∧Aside0 (laws_szRuleS.l0 kq l0 x1_1 x5_1=some r)∧Aside0 (kq≤k)∧Aside0 (Below w.heap.size w w'))
  case atStart=>exact ⟨(wrap64 (a1-(l0.length:Int))),(0),mq_,mq_,H',⟨Nat.le_refl _⟩,⟨mb_ HB⟩⟩
  clear H';(try clear c3b0);obtain ⟨x1_1,x5_1,rfl,rfl,HA,HK1,HB⟩:=hrel;obtain _|k1:=gk
  ·exact absurd HA.out (by simp [laws_szRuleS.l0])
  have H:=HA.out;clear HA;simp only [laws_szRuleS.l0] at H;by_cases c4:x5_1<(l0.length:Int)
  ·rw [if_pos c4] at H;have c4b0:=ct_ c4;clear c4;by_cases c5:0≤x5_1
   case neg=>
    rw [if_neg c5] at H;cases H
   rw [if_pos c5] at H;have c5b0:=ct_ c5;clear c5;obtain ⟨t123,A6,H⟩:=ob_ H;by_cases c7:t123<0
   ·rw [if_pos c7] at H;have c7b0:=ct_ c7;clear c7;obtain rfl:=oi_ H;have p122:0≤(x5_1:Int):=md_
    have q122:x5_1<(l0.length:Int):=md_
    obtain ⟨ad122,A122_2,c122_2,A122_3,c122_3,A122_4,c122_4,e122,hx122_0,hx122_1,hx122_2,hx122_3,hx122_4,hl122_2,hi122_2,hl122_3,hi122_3,hl122_4,hi122_4⟩:=at_T50 HR0.out x5_1 p122 q122;cases e122;replace hx122_0:=mx_ HB hx122_0;replace hx122_1:=mx_ HB hx122_1;replace hx122_2:=mx_ HB hx122_2;replace hx122_3:=mx_ HB hx122_3;replace hx122_4:=mx_ HB hx122_4;have HR122_2:=a_ hi122_2;have HC122_2:=a_ hl122_2;clear hi122_2 hl122_2;have HR122_3:=a_ hi122_3;have HC122_3:=a_ hl122_3;clear hi122_3 hl122_3;have HR122_4:=a_ hi122_4;have HC122_4:=a_ hl122_4;clear hi122_4 hl122_4;replace p122:=eq_true p122;replace q122:=eq_true q122;go_wp2_with (first|((with_reducible refine gate_callee (f:=21) rfl ?_);refine goesL_ (some 23) rfl rfl Tryz.func21 (by kernel_rfl) rfl #[.agg #[.string ((rd_T50 l0 x5_1).f0),.int .i64 ((rd_T50 l0 x5_1).f1),.slice A122_2 ((rd_T50 l0 x5_1).f2).length c122_2,.slice A122_3 ((rd_T50 l0 x5_1).f3).length c122_3,.slice A122_4 ((rd_T50 l0 x5_1).f4).length c122_4],.int .i64 x1_1] rfl mw_ ?_;(with_reducible refine (laws_szRule.calls k1 ((rd_T50 l0 x5_1).f0) ((rd_T50 l0 x5_1).f1) _ _ ((rd_T50 l0 x5_1).f2) _ _ ((rd_T50 l0 x5_1).f3) _ _ ((rd_T50 l0 x5_1).f4) x1_1 t123 _ ?side1 HC122_2.out ?side3 HC122_3.out ?side5 HC122_4.out A6.out).mono ?_);(case side1=>exact mt_ HR122_2 HB);(case side3=>exact mt_ HR122_3 HB);(case side5=>exact mt_ HR122_4 HB);rintro e wx ⟨rfl,hb⟩;refine ⟨_,rfl,?_⟩;replace HB:=ms_ HB hb;(try clear hb)));go_ret;exact ⟨me_,mb_ HB⟩
   ·rw [if_neg c7] at H;have c7b0:=cf_ c7;clear c7;have H':=a_ H;clear H;have p122:0≤(x5_1:Int):=md_
    have q122:x5_1<(l0.length:Int):=md_
    obtain ⟨ad122,A122_2,c122_2,A122_3,c122_3,A122_4,c122_4,e122,hx122_0,hx122_1,hx122_2,hx122_3,hx122_4,hl122_2,hi122_2,hl122_3,hi122_3,hl122_4,hi122_4⟩:=at_T50 HR0.out x5_1 p122 q122;cases e122;replace hx122_0:=mx_ HB hx122_0;replace hx122_1:=mx_ HB hx122_1;replace hx122_2:=mx_ HB hx122_2;replace hx122_3:=mx_ HB hx122_3;replace hx122_4:=mx_ HB hx122_4;have HR122_2:=a_ hi122_2;have HC122_2:=a_ hl122_2;clear hi122_2 hl122_2;have HR122_3:=a_ hi122_3;have HC122_3:=a_ hl122_3;clear hi122_3 hl122_3;have HR122_4:=a_ hi122_4;have HC122_4:=a_ hl122_4;clear hi122_4 hl122_4;replace p122:=eq_true p122;replace q122:=eq_true q122;go_wp2_with (first|((with_reducible refine gate_callee (f:=21) rfl ?_);refine goesL_ (some 23) rfl rfl Tryz.func21 (by kernel_rfl) rfl #[.agg #[.string ((rd_T50 l0 x5_1).f0),.int .i64 ((rd_T50 l0 x5_1).f1),.slice A122_2 ((rd_T50 l0 x5_1).f2).length c122_2,.slice A122_3 ((rd_T50 l0 x5_1).f3).length c122_3,.slice A122_4 ((rd_T50 l0 x5_1).f4).length c122_4],.int .i64 x1_1] rfl mw_ ?_;(with_reducible refine (laws_szRule.calls k1 ((rd_T50 l0 x5_1).f0) ((rd_T50 l0 x5_1).f1) _ _ ((rd_T50 l0 x5_1).f2) _ _ ((rd_T50 l0 x5_1).f3) _ _ ((rd_T50 l0 x5_1).f4) x1_1 t123 _ ?side1 HC122_2.out ?side3 HC122_3.out ?side5 HC122_4.out A6.out).mono ?_);(case side1=>exact mt_ HR122_2 HB);(case side3=>exact mt_ HR122_3 HB);(case side5=>exact mt_ HR122_4 HB);rintro e wx ⟨rfl,hb⟩;refine ⟨_,rfl,?_⟩;replace HB:=ms_ HB hb;(try clear hb)));go_roundg k1
    case measure=>
     have:=HK1.out
     omega
    case rel=>exact ⟨(t123),(wrap64 (x5_1+1)),mq_,mq_,H',⟨by have:=HK1.out;omega⟩,⟨mb_ HB⟩⟩
  ·rw [if_neg c4] at H;have c4b0:=cf_ c4;clear c4;obtain rfl:=oi_ H;go_wp2;go_ret;exact ⟨me_,mb_ HB⟩
def laws_szInst.f (a0_0:Int) (l0_1:List Int) (a1:Int):Option (Int):=(laws_szIntS.f l0_1 a1).bind fun t125=>(if t125<0 then (some (-1)) else (some t125))
theorem u067_1 {p:Prop} (h:p:=by
 clear c4;obtain rfl:=oi_ H;go_enter Tryz.func6,Tryz.ntmps6;go_wp2_with (first|((with_reducible refine gate_dst (N:=2) rfl ?_);refine bh_ 2 #[.int .i64 a0_0,.slice A0_1 l0_1.length c0_1] 25 HB ?_;intro gb124 hg wx BK124 GE124 hb;replace HB:=ms_ HB hb;clear hb hg;replace hz124:=cz2 BK124)|((with_reducible refine gate_callee (f:=22) rfl ?_);refine goesL_ (some 8) rfl rfl Tryz.func22 (by kernel_rfl) rfl #[.slice A0_1 l0_1.length c0_1,.int .i64 a1] rfl mw_ ?_;(with_reducible refine (laws_szIntS.calls _ _ l0_1 a1 t125 _ ?side1 HC0_1.out A3.out).mono ?_);(case side1=>exact mt_ HR0_1 HB);rintro e w' ⟨rfl,⟨nd,rfl⟩⟩;refine ⟨_,rfl,?_⟩));go_ret;exact ⟨me_,mb_ HB⟩):p:=h
set_option maxHeartbeats 8000000 in
set_option maxRecDepth 100000 in
theorem laws_szInst.calls (a0_0:Int) (A0_1:Option Addr) (c0_1:Nat) (l0_1:List Int) (a1:Int) (r:Int) (w:World) (hr0_1:Kd.C (Kd.int .i64) w A0_1 l0_1.length l0_1) (hc0_1:l0_1.length≤c0_1) (h:laws_szInst.f a0_0 l0_1 a1=some r):
  Calls Tryz.prog 6 #[.agg #[.int .i64 a0_0,.slice A0_1 l0_1.length c0_1],.int .i64 a1] w fun e w'=>e=.returned (.int .i64 r)∧Below w.heap.size w w':=by
 have hu25:=Tryz.underlying25;have HR0_1:=a_ hr0_1;have HC0_1:=a_ hc0_1;clear hr0_1 hc0_1;have HB:=a_ (Below.refl w.heap.size w);have H:((laws_szIntS.f l0_1 a1).bind fun t125=>(if t125<0 then (some (-1)) else (some t125)))=some r:=h
 clear h;obtain ⟨t125,A3,H⟩:=ob_ H;by_cases c4:t125<0
 ·rw [if_pos c4] at H;have c4b0:=ct_ c4;exact u067_1
 ·rw [if_neg c4] at H;have c4b0:=cf_ c4;exact u067_1
def spec_l5There.f (l0:List (S58)) (a1_0:Int) (l1_1:List Int):Option (Bool):=if a1_0≥0 then (if a1_0<(l0.length:Int) then (some (decide ((l1_1.length:Int)≤3))) else (some false)) else (some false)
theorem u067_2 {p:Prop} (h:p:=by
 obtain rfl:=oi_ H;go_enter Tryz.func23,Tryz.ntmps23;go_wp2_with (first|((with_reducible refine gate_dst (N:=3) rfl ?_);(try (refine gate_guard (by rfl) ?_;dsimp only));refine bh_ 3 #[.int .i64 a1_0,.slice A1_1 l1_1.length c1_1] 31 HB ?_;intro gb126 hg wx BK126 GE126 hb;replace HB:=ms_ HB hb;clear hb hg;replace hz126:=cz2 BK126));go_ret;exact ⟨me_,mb_ HB⟩):p:=h
set_option maxHeartbeats 8000000 in
set_option maxRecDepth 100000 in
theorem spec_l5There.calls (A0:Option Addr) (c0:Nat) (l0:List (S58)) (a1_0:Int) (A1_1:Option Addr) (c1_1:Nat) (l1_1:List Int) (r:Bool) (w:World) (hr0:Kd.C k58 w A0 l0.length l0) (hc0:l0.length≤c0) (hr1_1:Kd.C (Kd.int .i64) w A1_1 l1_1.length l1_1) (hc1_1:l1_1.length≤c1_1) (h:spec_l5There.f l0 a1_0 l1_1=some r):
  Calls Tryz.prog 23 #[.slice A0 l0.length c0,.agg #[.int .i64 a1_0,.slice A1_1 l1_1.length c1_1]] w fun e w'=>e=.returned (.bool r)∧Below w.heap.size w w':=by
 have hu31:=Tryz.underlying31;have HR0:=a_ hr0;have HC0:=a_ hc0;clear hr0 hc0;have HR1_1:=a_ hr1_1;have HC1_1:=a_ hc1_1;clear hr1_1 hc1_1;have HB:=a_ (Below.refl w.heap.size w);have H:=h;unfold spec_l5There.f at H
 clear h;by_cases c3:a1_0≥0
 ·rw [if_pos c3] at H;have c3b0:=ct_ c3;clear c3;by_cases c4:a1_0<(l0.length:Int)
  ·rw [if_pos c4] at H;have c4b0:=ct_ c4;clear c4;exact u067_2
  ·rw [if_neg c4] at H;have c4b0:=cf_ c4;clear c4;exact u067_2
 ·rw [if_neg c3] at H;have c3b0:=cf_ c3;clear c3;exact u067_2
end Go.Proofs.YtejjlkbbnhpbdaaGreat.P
namespace Go.Proofs.YtejjlkbbnhpbdaaGreat.P
open Go.Proofs.YtejjlkbbnhpbdaaGreatX
open Go.RowKit Go.Proofs.YtejjlkbbnhpbdaaGreatW.PrintWords Go.Proofs.YtejjlkbbnhpbdaaGreatW.PrintLast Go.Proofs.YtejjlkbbnhpbdaaGreatW.PrintMore
attribute [local go_sem] max2_int min2_int max_two min_two max_three min_three max_four min_four
set_option linter.unusedVariables false
set_option linter.unusedSimpArgs false
theorem eqA80 (d:Nat) (w:World) (x0 y0:Int) (x1 y1:Int) (x2 y2:Int):
  (Op.equalIn (d+2) 80 (.agg #[.int .i64 x0,.int .i64 x1,.int .i64 x2]) (.agg #[.int .i64 y0,.int .i64 y1,.int .i64 y2])).run Tryz.prog w=.ok (x0==y0&&(x1==y1&&(x2==y2))) w:=by
 refine eqA_of Tryz.underlying80 (by kernel_rfl) ?_;refine eqf_cons (by rfl) (by go_simp;rfl) (by go_simp;rfl) (by go_simp) ?_;refine eqf_cons (by rfl) (by go_simp;rfl) (by go_simp;rfl) (by go_simp) ?_;exact eqf_last (by rfl) (by go_simp;rfl) (by go_simp;rfl) (by go_simp)
end Go.Proofs.YtejjlkbbnhpbdaaGreat.P
namespace Go.Proofs.YtejjlkbbnhpbdaaGreat.P
open Go.Proofs.YtejjlkbbnhpbdaaGreatX
open Go.RowKit Go.Proofs.YtejjlkbbnhpbdaaGreatW.PrintWords Go.Proofs.YtejjlkbbnhpbdaaGreatW.PrintLast Go.Proofs.YtejjlkbbnhpbdaaGreatW.PrintMore
attribute [local go_sem] max2_int min2_int max_two min_two max_three min_three max_four min_four
set_option linter.unusedVariables false
set_option linter.unusedSimpArgs false
theorem eqA104 (d:Nat) (w:World) (x0 y0:Int) (x1 y1:Int) (x2 y2:ByteArray):
  (Op.equalIn (d+2) 104 (.agg #[.int .i64 x0,.int .i64 x1,.string x2]) (.agg #[.int .i64 y0,.int .i64 y1,.string y2])).run Tryz.prog w=.ok (x0==y0&&(x1==y1&&(x2.toList==y2.toList))) w:=by
 refine eqA_of Tryz.underlying104 (by kernel_rfl) ?_;refine eqf_cons (by rfl) (by go_simp;rfl) (by go_simp;rfl) (by go_simp) ?_;refine eqf_cons (by rfl) (by go_simp;rfl) (by go_simp;rfl) (by go_simp) ?_;exact eqf_last (by rfl) (by go_simp;rfl) (by go_simp;rfl) (by go_simp)
end Go.Proofs.YtejjlkbbnhpbdaaGreat.P
namespace Go.Proofs.YtejjlkbbnhpbdaaGreat.P
open Go.Proofs.YtejjlkbbnhpbdaaGreatX
open Go.RowKit Go.Proofs.YtejjlkbbnhpbdaaGreatW.PrintWords Go.Proofs.YtejjlkbbnhpbdaaGreatW.PrintLast Go.Proofs.YtejjlkbbnhpbdaaGreatW.PrintMore
attribute [local go_sem] max2_int min2_int max_two min_two max_three min_three max_four min_four
set_option linter.unusedVariables false
set_option linter.unusedSimpArgs false
attribute [local go_sem high] eqA104
mutual
def spec_l1GoodSym.j0:Nat→ByteArray→Bool→Option (Bool)
 | 0,_,_=>none
 | k+1,x0,x22=>if x22=true then (some false) else (spec_l1GoodSym.l0 k x0 0)
def spec_l1GoodSym.l0:Nat→ByteArray→Int→Option (Bool)
 | 0,_,_=>none
 | k+1,x0,x3=>if x3<(x0.size:Int) then (if 0≤x3 then (if (bt x0 x3)≥97 then (if (bt x0 x3)≤122 then (spec_l1GoodSym.l0 k x0 (wrap64 (x3+1))) else (if (bt x0 x3)≥48 then (if (bt x0 x3)≤57 then (spec_l1GoodSym.l0 k x0 (wrap64 (x3+1))) else (if ((bt x0 x3)=45) then (spec_l1GoodSym.l0 k x0 (wrap64 (x3+1))) else (some false))) else (if ((bt x0 x3)=45) then (spec_l1GoodSym.l0 k x0 (wrap64 (x3+1))) else (some false)))) else (if (bt x0 x3)≥48 then (if (bt x0 x3)≤57 then (spec_l1GoodSym.l0 k x0 (wrap64 (x3+1))) else (if ((bt x0 x3)=45) then (spec_l1GoodSym.l0 k x0 (wrap64 (x3+1))) else (some false))) else (if ((bt x0 x3)=45) then (spec_l1GoodSym.l0 k x0 (wrap64 (x3+1))) else (some false)))) else (none)) else (some true)
end
def spec_l1GoodSym.f (k:Nat) (a0:ByteArray):Option (Bool):=if (a0.size:Int)<1 then (spec_l1GoodSym.j0 k a0 true) else (if (a0.size:Int)>20 then (spec_l1GoodSym.j0 k a0 true) else (if 0<(a0.size:Int) then (if (bt a0 0)<97 then (spec_l1GoodSym.j0 k a0 true) else (spec_l1GoodSym.j0 k a0 (decide ((bt a0 0)>122)))) else (none)))
theorem spec_l1GoodSym.mono_l:∀k,(∀y0 y1,LeO (spec_l1GoodSym.j0 k y0 y1) (spec_l1GoodSym.j0 (k+1) y0 y1))∧(∀y0 y1,LeO (spec_l1GoodSym.l0 k y0 y1) (spec_l1GoodSym.l0 (k+1) y0 y1))
 | 0=>⟨fun _ _ r h=>by simp [spec_l1GoodSym.j0] at h,fun _ _ r h=>by simp [spec_l1GoodSym.l0] at h⟩
 | k+1=>by
  obtain ⟨ih0,ih1⟩:=spec_l1GoodSym.mono_l k;refine ⟨?_,?_⟩
  ·intro y0 y1;unfold spec_l1GoodSym.j0
   repeat' with_reducible first|apply ih0|apply ih1|apply LeO.refl|apply LeO.none|refine LeO.ite ?_ ?_|refine LeO.bind ?_ (fun _=>?_)
  ·intro y0 y1;unfold spec_l1GoodSym.l0
   repeat' with_reducible first|apply ih0|apply ih1|apply LeO.refl|apply LeO.none|refine LeO.ite ?_ ?_|refine LeO.bind ?_ (fun _=>?_)
theorem spec_l1GoodSym.mono:∀a0 k,LeO (spec_l1GoodSym.f k a0) (spec_l1GoodSym.f (k+1) a0):=by
 intro a0 k;obtain ⟨ih0,ih1⟩:=spec_l1GoodSym.mono_l k;unfold spec_l1GoodSym.f
 repeat' with_reducible first|apply ih0|apply ih1|apply LeO.refl|apply LeO.none|refine LeO.ite ?_ ?_|refine LeO.bind ?_ (fun _=>?_)
theorem u7d3_3 {p:Prop} (h:p:=by
 go_wp2;go_ret;exact ⟨by first|rfl|(simp;done)|(simp [*];done),by repeat (first|exact Drawn0.refl _|apply Drawn0.step)⟩):p:=h
theorem u7d3_2 {p:Prop} (h:p:=by
 exact ⟨_,(true),mq_,H',⟨by first|omega|exact Nat.le_refl _⟩,by repeat (first|exact Drawn0.refl _|apply Drawn0.step)⟩):p:=h
theorem u7d3_0 {p:Prop} (h:p:=by
 have H':=a_ H;clear H;have p12:0≤(x3_2:Int):=md_
 have q12:x3_2<(a0.size:Int):=md_
 have hx12:=bt_at a0 x3_2;replace p12:=eq_true p12;replace q12:=eq_true q12;go_wp2;go_roundg k2
 case measure=>
  have:=HJ1.out
  have:=HK2.out
  omega
 case rel=>exact ⟨(wrap64 (x3_2+1)),mq_,H',⟨by have:=HJ1.out;have:=HK2.out;omega⟩,by repeat (first|exact Drawn0.refl _|apply Drawn0.step)⟩):p:=h
theorem u7d3_1 {p:Prop} (h:p:=by
 obtain rfl:=oi_ H;have p12:0≤(x3_2:Int):=md_
 have q12:x3_2<(a0.size:Int):=md_
 have hx12:=bt_at a0 x3_2;replace p12:=eq_true p12;replace q12:=eq_true q12;exact u7d3_3):p:=h
set_option maxHeartbeats 8000000 in
set_option maxRecDepth 100000 in
theorem spec_l1GoodSym.calls (k:Nat) (a0:ByteArray) (r:Bool) (w:World) (h:spec_l1GoodSym.f k a0=some r):
  Calls Tryz.prog 87 #[.string a0] w fun e w'=>e=.returned (.bool r)∧Drawn0 w w':=by
 have H:=h;unfold spec_l1GoodSym.f at H
 clear h;have HC2:=a_ H;clear H;go_enter Tryz.func87,Tryz.ntmps87;go_upto_region 1 with (fail);go_cut [22] (fun v22 wc=>∃(kq:Nat) (x22_1:Bool),v22=.bool x22_1∧Aside0 (spec_l1GoodSym.j0 kq a0 x22_1=some r)∧Aside0 (kq≤k)∧Drawn0 w wc)
 case first=>
  have H:=HC2.out;clear HC2;by_cases c3:(a0.size:Int)<1
  ·rw [if_pos c3] at H;have c3b0:=ct_ c3;have c3b1:decide (a0.size<1)=true:=decide_eq_true (by omega)
   clear c3;(first|rw [c3b0]|(simp only [i64_w,i32_w];rw [c3b0])|skip);have H':=a_ H;clear H;go_wp2;go_meet
   case rel=>exact u7d3_2
  ·rw [if_neg c3] at H;have c3b0:=cf_ c3;have c3b1:decide (a0.size<1)=false:=decide_eq_false (by omega)
   clear c3;(first|rw [c3b0]|(simp only [i64_w,i32_w];rw [c3b0])|skip);by_cases c4:(a0.size:Int)>20
   ·rw [if_pos c4] at H;have c4b0:=ct_ c4;have c4b1:decide (20<a0.size)=true:=decide_eq_true (by omega)
    clear c4;have H':=a_ H;clear H;go_wp2;go_meet
    case rel=>exact u7d3_2
   ·rw [if_neg c4] at H;have c4b0:=cf_ c4;have c4b1:decide (20<a0.size)=false:=decide_eq_false (by omega)
    clear c4;by_cases c5:0<(a0.size:Int)
    case neg=>
     rw [if_neg c5] at H;cases H
    rw [if_pos c5] at H;have c5b0:=ct_ c5;have c5b1:decide (0<a0.size)=true:=decide_eq_true (by omega)
    clear c5;by_cases c7:(bt a0 0)<97
    ·rw [if_pos c7] at H;have c7b0:=ct_ c7;clear c7;have H':=a_ H;clear H;have p6:0≤(0:Int):=(by omega)
     have q6:0<a0.size:=(by have:(0:Int)<(a0.size:Int):=md_;omega)
     have hx6:∀h:0<a0.size,((a0[0]'h).toNat:Int)=bt a0 0:=bt_at a0 0
     clear p6;have qi6:(0<(a0.size:Int))=True:=eq_true (md_)
     replace q6:=eq_true q6;go_wp2;go_meet
     case rel=>exact u7d3_2
    ·rw [if_neg c7] at H;have c7b0:=cf_ c7;clear c7;have H':=a_ H;clear H;have p6:0≤(0:Int):=(by omega)
     have q6:0<a0.size:=(by have:(0:Int)<(a0.size:Int):=md_;omega)
     have hx6:∀h:0<a0.size,((a0[0]'h).toNat:Int)=bt a0 0:=bt_at a0 0
     clear p6;have qi6:(0<(a0.size:Int))=True:=eq_true (md_)
     replace q6:=eq_true q6;have p8:0≤(0:Int):=(by omega)
     have q8:0<a0.size:=(by have:(0:Int)<(a0.size:Int):=md_;omega)
     have hx8:∀h:0<a0.size,((a0[0]'h).toNat:Int)=bt a0 0:=bt_at a0 0
     clear p8;have qi8:(0<(a0.size:Int))=True:=eq_true (md_)
     replace q8:=eq_true q8;go_wp2;go_meet
     case rel=>exact ⟨_,(decide ((bt a0 0)>122)),mq_,H',⟨by first|omega|exact Nat.le_refl _⟩,by repeat (first|exact Drawn0.refl _|apply Drawn0.step)⟩
 clear HC2;obtain ⟨kq,x22_1,rfl,HA,HJ1,⟨mc1,rfl⟩⟩:=hcut;obtain _|kj1:=kq
 ·exact absurd HA.out (by simp [spec_l1GoodSym.j0])
 have H:=HA.out;clear HA;simp only [spec_l1GoodSym.j0] at H;by_cases c9:x22_1=true
 ·subst c9;rw [if_pos rfl] at H;obtain rfl:=oi_ H;exact u7d3_3
 ·replace c9:=Bool.eq_false_iff.mpr c9;subst c9;rw [if_neg (show ¬(false=true) by decide)] at H;have H':=a_ H;clear H;go_wp2;go_loopg [3] kj1 (fun kq v3 w'=>∃(x3_2:Int),v3=.int .i64 x3_2∧Aside0 (spec_l1GoodSym.l0 kq a0 x3_2=some r)∧Aside0 (kq≤kj1)∧Drawn0 w w')
  case atStart=>exact ⟨(0),mq_,H',⟨Nat.le_refl _⟩,by repeat (first|exact Drawn0.refl _|apply Drawn0.step)⟩
  clear H';(try clear c9);obtain ⟨x3_2,rfl,HA,HK2,⟨m2,rfl⟩⟩:=hrel;obtain _|k2:=gk
  ·exact absurd HA.out (by simp [spec_l1GoodSym.l0])
  have H:=HA.out;clear HA;simp only [spec_l1GoodSym.l0] at H;by_cases c10:x3_2<(a0.size:Int)
  ·rw [if_pos c10] at H;have c10b0:=ct_ c10;clear c10;by_cases c11:0≤x3_2
   case neg=>
    rw [if_neg c11] at H;cases H
   rw [if_pos c11] at H;have c11b0:=ct_ c11;clear c11;by_cases c13:(bt a0 x3_2)≥97
   ·rw [if_pos c13] at H;have c13b0:=ct_ c13;clear c13;by_cases c14:(bt a0 x3_2)≤122
    ·rw [if_pos c14] at H;have c14b0:=ct_ c14;clear c14;exact u7d3_0
    ·rw [if_neg c14] at H;have c14b0:=cf_ c14;clear c14;by_cases c15:(bt a0 x3_2)≥48
     ·rw [if_pos c15] at H;have c15b0:=ct_ c15;clear c15;by_cases c16:(bt a0 x3_2)≤57
      ·rw [if_pos c16] at H;have c16b0:=ct_ c16;clear c16;exact u7d3_0
      ·rw [if_neg c16] at H;have c16b0:=cf_ c16;clear c16;by_cases c17:((bt a0 x3_2)=45)
       ·rw [if_pos c17] at H;obtain ⟨c17b0,c17b1⟩:=bq_ c17;clear c17;exact u7d3_0
       ·rw [if_neg c17] at H;obtain ⟨c17b0,c17b1⟩:=bn_ c17;exact u7d3_1
     ·rw [if_neg c15] at H;have c15b0:=cf_ c15;clear c15;by_cases c18:((bt a0 x3_2)=45)
      ·rw [if_pos c18] at H;obtain ⟨c18b0,c18b1⟩:=bq_ c18;clear c18;exact u7d3_0
      ·rw [if_neg c18] at H;obtain ⟨c18b0,c18b1⟩:=bn_ c18;exact u7d3_1
   ·rw [if_neg c13] at H;have c13b0:=cf_ c13;clear c13;by_cases c19:(bt a0 x3_2)≥48
    ·rw [if_pos c19] at H;have c19b0:=ct_ c19;clear c19;by_cases c20:(bt a0 x3_2)≤57
     ·rw [if_pos c20] at H;have c20b0:=ct_ c20;clear c20;exact u7d3_0
     ·rw [if_neg c20] at H;have c20b0:=cf_ c20;clear c20;by_cases c21:((bt a0 x3_2)=45)
      ·rw [if_pos c21] at H;obtain ⟨c21b0,c21b1⟩:=bq_ c21;clear c21;exact u7d3_0
      ·rw [if_neg c21] at H;obtain ⟨c21b0,c21b1⟩:=bn_ c21;exact u7d3_1
    ·rw [if_neg c19] at H;have c19b0:=cf_ c19;clear c19;by_cases c22:((bt a0 x3_2)=45)
     ·rw [if_pos c22] at H;obtain ⟨c22b0,c22b1⟩:=bq_ c22;clear c22;exact u7d3_0
     ·rw [if_neg c22] at H;obtain ⟨c22b0,c22b1⟩:=bn_ c22;exact u7d3_1
  ·rw [if_neg c10] at H;have c10b0:=cf_ c10;clear c10;obtain rfl:=oi_ H;exact u7d3_3
def spec_l2GoodCls.f (k:Nat) (a0:ByteArray):Option (Bool):=(spec_l1GoodSym.f k a0).bind fun t127=>(if t127=true then (some (a0.toList != ([110,111,116]:List UInt8))) else (some false))
theorem spec_l2GoodCls.mono:∀a0 k,LeO (spec_l2GoodCls.f k a0) (spec_l2GoodCls.f (k+1) a0):=by
 intro a0 k;unfold spec_l2GoodCls.f
 repeat' with_reducible first|apply spec_l1GoodSym.mono|apply LeO.refl|apply LeO.none|refine LeO.ite ?_ ?_|refine LeO.bind ?_ (fun _=>?_)
theorem u7d3_4 {p:Prop} (h:p:=by
 obtain rfl:=oi_ H;go_enter Tryz.func105,Tryz.ntmps105;go_wp2_with (first|((with_reducible refine gate_callee (f:=87) rfl ?_);refine goesL_ (some 4) rfl rfl Tryz.func87 (by kernel_rfl) rfl #[.string a0] rfl mw_ ?_;(with_reducible refine (spec_l1GoodSym.calls k a0 true _ A2.out).mono ?_);rintro e w' ⟨rfl,⟨nd,rfl⟩⟩;refine ⟨_,rfl,?_⟩)|((with_reducible refine gate_callee (f:=87) rfl ?_);refine goesL_ (some 4) rfl rfl Tryz.func87 (by kernel_rfl) rfl #[.string a0] rfl mw_ ?_;(with_reducible refine (spec_l1GoodSym.calls k a0 false _ A2.out).mono ?_);rintro e w' ⟨rfl,⟨nd,rfl⟩⟩;refine ⟨_,rfl,?_⟩));go_ret;exact ⟨by first|rfl|(simp;done)|(simp [*];done),by repeat (first|exact Drawn0.refl _|apply Drawn0.step)⟩):p:=h
set_option maxHeartbeats 8000000 in
set_option maxRecDepth 100000 in
theorem spec_l2GoodCls.calls (k:Nat) (a0:ByteArray) (r:Bool) (w:World) (h:spec_l2GoodCls.f k a0=some r):
  Calls Tryz.prog 105 #[.string a0] w fun e w'=>e=.returned (.bool r)∧Drawn0 w w':=by
 have H:=h;unfold spec_l2GoodCls.f at H
 clear h;obtain ⟨t127,A2,H⟩:=ob_ H;by_cases c3:t127=true
 ·subst c3;rw [if_pos rfl] at H;exact u7d3_4
 ·replace c3:=Bool.eq_false_iff.mpr c3;subst c3;rw [if_neg (show ¬(false=true) by decide)] at H;exact u7d3_4
def spec_l1GoodVal.f (k:Nat) (a0_0:Int) (a0_1:Int) (a0_2:ByteArray):Option (Bool):=if a0_0=0 then (if a0_2.toList=([]:List UInt8) then (some true) else (if a0_0=1 then (if a0_1=0 then ((spec_l1GoodSym.f k a0_2).bind fun t129=>(some t129)) else (some false)) else (some false))) else (if a0_0=1 then (if a0_1=0 then ((spec_l1GoodSym.f k a0_2).bind fun t130=>(some t130)) else (some false)) else (some false))
theorem spec_l1GoodVal.mono:∀a0 a1 a2 k,LeO (spec_l1GoodVal.f k a0 a1 a2) (spec_l1GoodVal.f (k+1) a0 a1 a2):=by
 intro a0 a1 a2 k;unfold spec_l1GoodVal.f
 repeat' with_reducible first|apply spec_l1GoodSym.mono|apply LeO.refl|apply LeO.none|refine LeO.ite ?_ ?_|refine LeO.bind ?_ (fun _=>?_)
theorem u7d3_5 {p:Prop} (h:p:=by
 obtain rfl:=oi_ H;go_enter Tryz.func107,Tryz.ntmps107;go_wp2_with (first|((with_reducible refine gate_dst (N:=1) rfl ?_);refine bh_ 1 #[.int .i64 a0_0,.int .i64 a0_1,.string a0_2] 104 HB ?_;intro gb128 hg wx BK128 GE128 hb;replace HB:=ms_ HB hb;clear hb hg;replace hz128:=cz3 BK128)|(go_at_call 87;(with_reducible refine (spec_l1GoodSym.calls k a0_2 t129 _ A8.out).mono ?_);rintro e w' ⟨rfl,⟨nd,rfl⟩⟩)|(go_at_call 87;(with_reducible refine (spec_l1GoodSym.calls k a0_2 t130 _ A17.out).mono ?_);rintro e w' ⟨rfl,⟨nd,rfl⟩⟩));go_ret;exact ⟨me_,mb_ HB⟩):p:=h
set_option maxHeartbeats 8000000 in
set_option maxRecDepth 100000 in
theorem spec_l1GoodVal.calls (k:Nat) (a0_0:Int) (a0_1:Int) (a0_2:ByteArray) (r:Bool) (w:World) (h:spec_l1GoodVal.f k a0_0 a0_1 a0_2=some r):
  Calls Tryz.prog 107 #[.agg #[.int .i64 a0_0,.int .i64 a0_1,.string a0_2]] w fun e w'=>e=.returned (.bool r)∧Below w.heap.size w w':=by
 have hu104:=Tryz.underlying104;have HB:=a_ (Below.refl w.heap.size w);have H:=h;unfold spec_l1GoodVal.f at H
 clear h;by_cases c2:a0_0=0
 ·rw [if_pos c2] at H;obtain ⟨c2b0,c2b1⟩:=bq_ c2;clear c2;by_cases c3:a0_2.toList=([]:List UInt8)
  ·rw [if_pos c3] at H;obtain ⟨c3b0,c3b1⟩:=bq_ c3;clear c3;exact u7d3_5
  ·rw [if_neg c3] at H;obtain ⟨c3b0,c3b1⟩:=bn_ c3;by_cases c6:a0_0=1
   ·rw [if_pos c6] at H;obtain ⟨c6b0,c6b1⟩:=bq_ c6;clear c6;by_cases c7:a0_1=0
    ·rw [if_pos c7] at H;obtain ⟨c7b0,c7b1⟩:=bq_ c7;clear c7;obtain ⟨t129,A8,H⟩:=ob_ H;exact u7d3_5
    ·rw [if_neg c7] at H;obtain ⟨c7b0,c7b1⟩:=bn_ c7;exact u7d3_5
   ·rw [if_neg c6] at H;obtain ⟨c6b0,c6b1⟩:=bn_ c6;exact u7d3_5
 ·rw [if_neg c2] at H;obtain ⟨c2b0,c2b1⟩:=bn_ c2;by_cases c15:a0_0=1
  ·rw [if_pos c15] at H;obtain ⟨c15b0,c15b1⟩:=bq_ c15;clear c15;by_cases c16:a0_1=0
   ·rw [if_pos c16] at H;obtain ⟨c16b0,c16b1⟩:=bq_ c16;clear c16;obtain ⟨t130,A17,H⟩:=ob_ H;exact u7d3_5
   ·rw [if_neg c16] at H;obtain ⟨c16b0,c16b1⟩:=bn_ c16;exact u7d3_5
  ·rw [if_neg c15] at H;obtain ⟨c15b0,c15b1⟩:=bn_ c15;exact u7d3_5
def spec_l2Zero.f (a0_0:Int) (a0_1:Int) (a0_2:ByteArray):Option (Bool):=some (a0_0==0&&(a0_1==0&&(a0_2.toList==([]:List UInt8))))
set_option maxHeartbeats 8000000 in
set_option maxRecDepth 100000 in
theorem spec_l2Zero.calls (a0_0:Int) (a0_1:Int) (a0_2:ByteArray) (r:Bool) (w:World) (h:spec_l2Zero.f a0_0 a0_1 a0_2=some r):
  Calls Tryz.prog 108 #[.agg #[.int .i64 a0_0,.int .i64 a0_1,.string a0_2]] w fun e w'=>e=.returned (.bool r)∧Below w.heap.size w w':=by
 have hu104:=Tryz.underlying104;have HB:=a_ (Below.refl w.heap.size w);have H:(some (a0_0==0&&(a0_1==0&&(a0_2.toList==([]:List UInt8)))))=some r:=h
 clear h;obtain rfl:=oi_ H;go_enter Tryz.func108,Tryz.ntmps108;go_wp2_with (first|((with_reducible refine gate_dst (N:=1) rfl ?_);refine bh_ 1 #[.int .i64 a0_0,.int .i64 a0_1,.string a0_2] 104 HB ?_;intro gb131 hg wx BK131 GE131 hb;replace HB:=ms_ HB hb;clear hb hg;replace hz131:=cz3 BK131));go_ret;exact ⟨me_,mb_ HB⟩
end Go.Proofs.YtejjlkbbnhpbdaaGreat.P
namespace Go.Proofs.YtejjlkbbnhpbdaaGreat.P
open Go.Proofs.YtejjlkbbnhpbdaaGreatX
open Go.RowKit Go.Proofs.YtejjlkbbnhpbdaaGreatW.PrintWords Go.Proofs.YtejjlkbbnhpbdaaGreatW.PrintLast Go.Proofs.YtejjlkbbnhpbdaaGreatW.PrintMore
attribute [local go_sem] max2_int min2_int max_two min_two max_three min_three max_four min_four
set_option linter.unusedVariables false
set_option linter.unusedSimpArgs false
def spec_l2GoodTerm.f (k:Nat) (a0_0:Int) (a0_1:Int) (a0_2:ByteArray) (a0_3:Int) (a0_4:Int) (a0_5:ByteArray):Option (Bool):=if a0_0=0 then (if a0_1=0 then (if a0_2.toList=([]:List UInt8) then ((spec_l2Zero.f a0_3 a0_4 a0_5).bind fun t133=>(some t133)) else (some false)) else (some false)) else (if a0_0=1 then (if a0_1=0 then (if a0_2.toList=([]:List UInt8) then ((spec_l1GoodVal.f k a0_3 a0_4 a0_5).bind fun t134=>(some t134)) else (some false)) else (some false)) else (if a0_0=2 then (if a0_1=0 then ((spec_l1GoodSym.f k a0_2).bind fun t135=>(if t135=true then ((spec_l2Zero.f a0_3 a0_4 a0_5).bind fun t136=>(some t136)) else (some false))) else (some false)) else (if a0_0=3 then (if a0_1≥1 then (if a0_1≤6 then (if a0_2.toList=([]:List UInt8) then ((spec_l1GoodVal.f k a0_3 a0_4 a0_5).bind fun t137=>(if t137=true then (some true) else ((spec_l1GoodSym.f k a0_2).bind fun t138=>(if t138=true then ((spec_l2Zero.f a0_3 a0_4 a0_5).bind fun t139=>(some t139)) else (some false))))) else ((spec_l1GoodSym.f k a0_2).bind fun t140=>(if t140=true then ((spec_l2Zero.f a0_3 a0_4 a0_5).bind fun t141=>(some t141)) else (some false)))) else (some false)) else (some false)) else (some false))))
theorem spec_l2GoodTerm.mono:∀a0 a1 a2 a3 a4 a5 k,LeO (spec_l2GoodTerm.f k a0 a1 a2 a3 a4 a5) (spec_l2GoodTerm.f (k+1) a0 a1 a2 a3 a4 a5):=by
 intro a0 a1 a2 a3 a4 a5 k;unfold spec_l2GoodTerm.f
 repeat' with_reducible first|apply spec_l1GoodSym.mono|apply spec_l1GoodVal.mono|apply LeO.refl|apply LeO.none|refine LeO.ite ?_ ?_|refine LeO.bind ?_ (fun _=>?_)
theorem u210_0 {p:Prop} (h:p:=by
 obtain rfl:=oi_ H;go_enter Tryz.func106,Tryz.ntmps106;go_wp2_with (first|((with_reducible refine gate_dst (N:=1) rfl ?_);refine bh_ 1 #[.int .i64 a0_0,.int .i64 a0_1,.string a0_2,.int .i64 a0_3,.int .i64 a0_4,.string a0_5] 134 HB ?_;intro gb132 hg wx BK132 GE132 hb;replace HB:=ms_ HB hb;clear hb hg;replace hz132:=cz6 BK132)|(go_at_call 108;(with_reducible refine (spec_l2Zero.calls a0_3 a0_4 a0_5 t133 _ A5.out).mono ?_);rintro e wx ⟨rfl,hb⟩;replace BK132:=mk_ BK132 hb;replace HB:=ms_ HB hb;(try clear hb))|(go_at_call 107;(with_reducible refine (spec_l1GoodVal.calls k a0_3 a0_4 a0_5 t134 _ A16.out).mono ?_);rintro e wx ⟨rfl,hb⟩;replace BK132:=mk_ BK132 hb;replace HB:=ms_ HB hb;(try clear hb))|(go_at_call 87;(with_reducible refine (spec_l1GoodSym.calls k a0_2 true _ A26.out).mono ?_);rintro e w' ⟨rfl,⟨nd,rfl⟩⟩)|(go_at_call 108;(with_reducible refine (spec_l2Zero.calls a0_3 a0_4 a0_5 t136 _ A28.out).mono ?_);rintro e wx ⟨rfl,hb⟩;replace BK132:=mk_ BK132 hb;replace HB:=ms_ HB hb;(try clear hb))|(go_at_call 87;(with_reducible refine (spec_l1GoodSym.calls k a0_2 false _ A26.out).mono ?_);rintro e w' ⟨rfl,⟨nd,rfl⟩⟩)|(go_at_call 107;(with_reducible refine (spec_l1GoodVal.calls k a0_3 a0_4 a0_5 true _ A40.out).mono ?_);rintro e wx ⟨rfl,hb⟩;replace BK132:=mk_ BK132 hb;replace HB:=ms_ HB hb;(try clear hb))|(go_at_call 107;(with_reducible refine (spec_l1GoodVal.calls k a0_3 a0_4 a0_5 false _ A40.out).mono ?_);rintro e wx ⟨rfl,hb⟩;replace BK132:=mk_ BK132 hb;replace HB:=ms_ HB hb;(try clear hb);replace hz132:=cz6 BK132)|(go_at_call 87;(with_reducible refine (spec_l1GoodSym.calls k a0_2 true _ A45.out).mono ?_);rintro e w' ⟨rfl,⟨nd,rfl⟩⟩)|(go_at_call 108;(with_reducible refine (spec_l2Zero.calls a0_3 a0_4 a0_5 t139 _ A47.out).mono ?_);rintro e wx ⟨rfl,hb⟩;replace BK132:=mk_ BK132 hb;replace HB:=ms_ HB hb;(try clear hb))|(go_at_call 87;(with_reducible refine (spec_l1GoodSym.calls k a0_2 false _ A45.out).mono ?_);rintro e w' ⟨rfl,⟨nd,rfl⟩⟩)|(go_at_call 87;(with_reducible refine (spec_l1GoodSym.calls k a0_2 true _ A57.out).mono ?_);rintro e w' ⟨rfl,⟨nd,rfl⟩⟩)|(go_at_call 108;(with_reducible refine (spec_l2Zero.calls a0_3 a0_4 a0_5 t141 _ A59.out).mono ?_);rintro e wx ⟨rfl,hb⟩;replace BK132:=mk_ BK132 hb;replace HB:=ms_ HB hb;(try clear hb))|(go_at_call 87;(with_reducible refine (spec_l1GoodSym.calls k a0_2 false _ A57.out).mono ?_);rintro e w' ⟨rfl,⟨nd,rfl⟩⟩));go_ret;exact ⟨me_,mb_ HB⟩):p:=h
set_option maxHeartbeats 8000000 in
set_option maxRecDepth 100000 in
theorem spec_l2GoodTerm.calls (k:Nat) (a0_0:Int) (a0_1:Int) (a0_2:ByteArray) (a0_3:Int) (a0_4:Int) (a0_5:ByteArray) (r:Bool) (w:World) (h:spec_l2GoodTerm.f k a0_0 a0_1 a0_2 a0_3 a0_4 a0_5=some r):
  Calls Tryz.prog 106 #[.agg #[.int .i64 a0_0,.int .i64 a0_1,.string a0_2,.int .i64 a0_3,.int .i64 a0_4,.string a0_5]] w fun e w'=>e=.returned (.bool r)∧Below w.heap.size w w':=by
 have hu134:=Tryz.underlying134;have hu104:=Tryz.underlying104;have HB:=a_ (Below.refl w.heap.size w);have H:=h;unfold spec_l2GoodTerm.f at H
 clear h;by_cases c2:a0_0=0
 ·rw [if_pos c2] at H;obtain ⟨c2b0,c2b1⟩:=bq_ c2;clear c2;by_cases c3:a0_1=0
  ·rw [if_pos c3] at H;obtain ⟨c3b0,c3b1⟩:=bq_ c3;clear c3;by_cases c4:a0_2.toList=([]:List UInt8)
   ·rw [if_pos c4] at H;obtain ⟨c4b0,c4b1⟩:=bq_ c4;clear c4;obtain ⟨t133,A5,H⟩:=ob_ H;exact u210_0
   ·rw [if_neg c4] at H;obtain ⟨c4b0,c4b1⟩:=bn_ c4;exact u210_0
  ·rw [if_neg c3] at H;obtain ⟨c3b0,c3b1⟩:=bn_ c3;exact u210_0
 ·rw [if_neg c2] at H;obtain ⟨c2b0,c2b1⟩:=bn_ c2;by_cases c13:a0_0=1
  ·rw [if_pos c13] at H;obtain ⟨c13b0,c13b1⟩:=bq_ c13;clear c13;by_cases c14:a0_1=0
   ·rw [if_pos c14] at H;obtain ⟨c14b0,c14b1⟩:=bq_ c14;clear c14;by_cases c15:a0_2.toList=([]:List UInt8)
    ·rw [if_pos c15] at H;obtain ⟨c15b0,c15b1⟩:=bq_ c15;clear c15;obtain ⟨t134,A16,H⟩:=ob_ H;exact u210_0
    ·rw [if_neg c15] at H;obtain ⟨c15b0,c15b1⟩:=bn_ c15;exact u210_0
   ·rw [if_neg c14] at H;obtain ⟨c14b0,c14b1⟩:=bn_ c14;exact u210_0
  ·rw [if_neg c13] at H;obtain ⟨c13b0,c13b1⟩:=bn_ c13;by_cases c24:a0_0=2
   ·rw [if_pos c24] at H;obtain ⟨c24b0,c24b1⟩:=bq_ c24;clear c24;by_cases c25:a0_1=0
    ·rw [if_pos c25] at H;obtain ⟨c25b0,c25b1⟩:=bq_ c25;clear c25;obtain ⟨t135,A26,H⟩:=ob_ H;by_cases c27:t135=true
     ·subst c27;rw [if_pos rfl] at H;obtain ⟨t136,A28,H⟩:=ob_ H;exact u210_0
     ·replace c27:=Bool.eq_false_iff.mpr c27;subst c27;rw [if_neg (show ¬(false=true) by decide)] at H;exact u210_0
    ·rw [if_neg c25] at H;obtain ⟨c25b0,c25b1⟩:=bn_ c25;exact u210_0
   ·rw [if_neg c24] at H;obtain ⟨c24b0,c24b1⟩:=bn_ c24;by_cases c36:a0_0=3
    ·rw [if_pos c36] at H;obtain ⟨c36b0,c36b1⟩:=bq_ c36;clear c36;by_cases c37:a0_1≥1
     ·rw [if_pos c37] at H;have c37b0:=ct_ c37;clear c37;by_cases c38:a0_1≤6
      ·rw [if_pos c38] at H;have c38b0:=ct_ c38;clear c38;by_cases c39:a0_2.toList=([]:List UInt8)
       ·rw [if_pos c39] at H;obtain ⟨c39b0,c39b1⟩:=bq_ c39;clear c39;obtain ⟨t137,A40,H⟩:=ob_ H;by_cases c41:t137=true
        ·subst c41;rw [if_pos rfl] at H;exact u210_0
        ·replace c41:=Bool.eq_false_iff.mpr c41;subst c41;rw [if_neg (show ¬(false=true) by decide)] at H;obtain ⟨t138,A45,H⟩:=ob_ H;by_cases c46:t138=true
         ·subst c46;rw [if_pos rfl] at H;obtain ⟨t139,A47,H⟩:=ob_ H;exact u210_0
         ·replace c46:=Bool.eq_false_iff.mpr c46;subst c46;rw [if_neg (show ¬(false=true) by decide)] at H;exact u210_0
       ·rw [if_neg c39] at H;obtain ⟨c39b0,c39b1⟩:=bn_ c39;obtain ⟨t140,A57,H⟩:=ob_ H;by_cases c58:t140=true
        ·subst c58;rw [if_pos rfl] at H;obtain ⟨t141,A59,H⟩:=ob_ H;exact u210_0
        ·replace c58:=Bool.eq_false_iff.mpr c58;subst c58;rw [if_neg (show ¬(false=true) by decide)] at H;exact u210_0
      ·rw [if_neg c38] at H;have c38b0:=cf_ c38;clear c38;exact u210_0
     ·rw [if_neg c37] at H;have c37b0:=cf_ c37;clear c37;exact u210_0
    ·rw [if_neg c36] at H;obtain ⟨c36b0,c36b1⟩:=bn_ c36;exact u210_0
mutual
def spec_l2GoodPat.j0:Nat→Bool→Bool→ByteArray→List (S134)→Option (Bool)
 | 0,_,_,_,_=>none
 | k+1,x14,x143000,x143001,x143002=>if x14=true then (some false) else (spec_l2GoodPat.l0 k x143002 (x143002.length:Int) 0)
def spec_l2GoodPat.l0:Nat→List (S134)→Int→Int→Option (Bool)
 | 0,_,_,_=>none
 | k+1,x16,x17,x18=>if x18<x17 then (if 0≤x18 then (if x18<(x16.length:Int) then ((spec_l2GoodTerm.f k ((rd_T134 x16 x18).f0) ((rd_T134 x16 x18).f1) ((rd_T134 x16 x18).f2) ((rd_T134 x16 x18).f3.f0) ((rd_T134 x16 x18).f3.f1) ((rd_T134 x16 x18).f3.f2)).bind fun t146=>(if t146=true then (spec_l2GoodPat.l0 k x16 x17 (wrap64 (x18+1))) else (some false))) else (none)) else (none)) else (some true)
end
def spec_l2GoodPat.f (k:Nat) (a0_0:Bool) (a0_1:ByteArray) (l0_2:List (S134)):Option (Bool):=(spec_l2GoodCls.f k a0_1).bind fun t143=>(if t143=true then (spec_l2GoodPat.j0 k (decide ((l0_2.length:Int)>6)) a0_0 a0_1 l0_2) else (spec_l2GoodPat.j0 k true a0_0 a0_1 l0_2))
theorem spec_l2GoodPat.mono_l:∀k,(∀y0 y1 y2 y3,LeO (spec_l2GoodPat.j0 k y0 y1 y2 y3) (spec_l2GoodPat.j0 (k+1) y0 y1 y2 y3))∧(∀y0 y1 y2,LeO (spec_l2GoodPat.l0 k y0 y1 y2) (spec_l2GoodPat.l0 (k+1) y0 y1 y2))
 | 0=>⟨fun _ _ _ _ r h=>by simp [spec_l2GoodPat.j0] at h,fun _ _ _ r h=>by simp [spec_l2GoodPat.l0] at h⟩
 | k+1=>by
  obtain ⟨ih0,ih1⟩:=spec_l2GoodPat.mono_l k;refine ⟨?_,?_⟩
  ·intro y0 y1 y2 y3;unfold spec_l2GoodPat.j0
   repeat' with_reducible first|apply ih0|apply ih1|apply spec_l2GoodCls.mono|apply spec_l2GoodTerm.mono|apply LeO.refl|apply LeO.none|refine LeO.ite ?_ ?_|refine LeO.bind ?_ (fun _=>?_)
  ·intro y0 y1 y2;unfold spec_l2GoodPat.l0
   repeat' with_reducible first|apply ih0|apply ih1|apply spec_l2GoodCls.mono|apply spec_l2GoodTerm.mono|apply LeO.refl|apply LeO.none|refine LeO.ite ?_ ?_|refine LeO.bind ?_ (fun _=>?_)
theorem spec_l2GoodPat.mono:∀a0 a1 a2 k,LeO (spec_l2GoodPat.f k a0 a1 a2) (spec_l2GoodPat.f (k+1) a0 a1 a2):=by
 intro a0 a1 a2 k;obtain ⟨ih0,ih1⟩:=spec_l2GoodPat.mono_l k;unfold spec_l2GoodPat.f
 repeat' with_reducible first|apply ih0|apply ih1|apply spec_l2GoodCls.mono|apply spec_l2GoodTerm.mono|apply LeO.refl|apply LeO.none|refine LeO.ite ?_ ?_|refine LeO.bind ?_ (fun _=>?_)
set_option maxHeartbeats 8000000 in
set_option maxRecDepth 100000 in
theorem spec_l2GoodPat.calls (k:Nat) (a0_0:Bool) (a0_1:ByteArray) (A0_2:Option Addr) (c0_2:Nat) (l0_2:List (S134)) (r:Bool) (w:World) (hr0_2:Kd.C k134 w A0_2 l0_2.length l0_2) (hc0_2:l0_2.length≤c0_2) (h:spec_l2GoodPat.f k a0_0 a0_1 l0_2=some r):
  Calls Tryz.prog 88 #[.agg #[.bool a0_0,.string a0_1,.slice A0_2 l0_2.length c0_2]] w fun e w'=>e=.returned (.bool r)∧Below w.heap.size w w':=by
 have hu101:=Tryz.underlying101;have hu134:=Tryz.underlying134;have HR0_2:=a_ hr0_2;have HC0_2:=a_ hc0_2;clear hr0_2 hc0_2;have HB:=a_ (Below.refl w.heap.size w);have H:=h;unfold spec_l2GoodPat.f at H
 clear h;have HC2:=a_ H;clear H;go_enter Tryz.func88,Tryz.ntmps88;go_upto_region 1 with (first|((with_reducible refine gate_dst (N:=1) rfl ?_);(try (refine gate_guard (by rfl) ?_;dsimp only));refine bh_ 1 #[.bool a0_0,.string a0_1,.slice A0_2 l0_2.length c0_2] 101 HB ?_;intro gb142 hg w3 BK142 GE142 hb;replace HB:=ms_ HB hb;clear hb hg));(try simp only [Act.put,List.setIfInBounds_toArray,List.set_cons_zero,List.set_cons_succ]);go_cut [14] (fun v14 wc=>∃(kq:Nat) (x14_1:Bool),v14=.bool x14_1∧Aside0 (spec_l2GoodPat.j0 kq x14_1 a0_0 a0_1 l0_2=some r)∧Aside0 (kq≤k)∧Aside0 (wc.heap[gb142]?=some (.cells #[.bool a0_0,.string a0_1,(.slice A0_2 l0_2.length c0_2)] 101 (0,0)))∧Aside0 (Below w.heap.size w wc))
 case first=>
  have H:=HC2.out;clear HC2;obtain ⟨t143,A4,H⟩:=ob_ H;by_cases c5:t143=true
  ·subst c5;rw [if_pos rfl] at H;have H':=a_ H;clear H;replace hz142:=cz3 BK142;go_wp2_with (first|((with_reducible refine gate_callee (f:=105) rfl ?_);refine goesL_ (some 7) rfl rfl Tryz.func105 (by kernel_rfl) rfl #[.string a0_1] rfl mw_ ?_;(with_reducible refine (spec_l2GoodCls.calls k a0_1 true _ A4.out).mono ?_);rintro e w' ⟨rfl,⟨nd,rfl⟩⟩;refine ⟨_,rfl,?_⟩));go_meet
   case rel=>exact ⟨_,(decide ((l0_2.length:Int)>6)),mq_,H',⟨by first|omega|exact Nat.le_refl _⟩,⟨mc_ BK142⟩,⟨mb_ HB⟩⟩
  ·replace c5:=Bool.eq_false_iff.mpr c5;subst c5;rw [if_neg (show ¬(false=true) by decide)] at H;have H':=a_ H;clear H;replace hz142:=cz3 BK142;go_wp2_with (first|((with_reducible refine gate_callee (f:=105) rfl ?_);refine goesL_ (some 7) rfl rfl Tryz.func105 (by kernel_rfl) rfl #[.string a0_1] rfl mw_ ?_;(with_reducible refine (spec_l2GoodCls.calls k a0_1 false _ A4.out).mono ?_);rintro e w' ⟨rfl,⟨nd,rfl⟩⟩;refine ⟨_,rfl,?_⟩));go_meet
   case rel=>exact ⟨_,(true),mq_,H',⟨by first|omega|exact Nat.le_refl _⟩,⟨mc_ BK142⟩,⟨mb_ HB⟩⟩
 clear HC2;obtain ⟨kq,x14_1,rfl,HA,HJ1,BK142,HB⟩:=hcut;obtain _|kj1:=kq
 ·exact absurd HA.out (by simp [spec_l2GoodPat.j0])
 have H:=HA.out;clear HA;simp only [spec_l2GoodPat.j0] at H;by_cases c8:x14_1=true
 ·subst c8;rw [if_pos rfl] at H;obtain rfl:=oi_ H;go_wp2;go_ret;exact ⟨me_,mb_ HB⟩
 ·replace c8:=Bool.eq_false_iff.mpr c8;subst c8;rw [if_neg (show ¬(false=true) by decide)] at H;have H':=a_ H;clear H;replace hz142:=cz3 BK142;go_wp2;go_loopg [18] kj1 (fun kq v18 w'=>∃(x18_2:Int),v18=.int .i64 x18_2∧Aside0 (spec_l2GoodPat.l0 kq l0_2 (l0_2.length:Int) x18_2=some r)∧Aside0 (kq≤kj1)∧Aside0 (w'.heap[gb142]?=some (.cells #[.bool a0_0,.string a0_1,(.slice A0_2 l0_2.length c0_2)] 101 (0,0)))∧Aside0 (Below w.heap.size w w'))
  case atStart=>exact ⟨(0),mq_,H',⟨Nat.le_refl _⟩,⟨mc_ BK142⟩,⟨mb_ HB⟩⟩
  clear H';(try clear c8);obtain ⟨x18_2,rfl,HA,HK2,BK142,HB⟩:=hrel;obtain _|k2:=gk
  ·exact absurd HA.out (by simp [spec_l2GoodPat.l0])
  have H:=HA.out;clear HA;simp only [spec_l2GoodPat.l0] at H;by_cases c10:x18_2<(l0_2.length:Int)
  ·rw [if_pos c10] at H;have c10b0:=ct_ c10;clear c10;by_cases c11:0≤x18_2
   case neg=>
    rw [if_neg c11] at H;cases H
   rw [if_pos c11] at H;have c11b0:=ct_ c11;clear c11;by_cases c12:x18_2<(l0_2.length:Int)
   case neg=>
    rw [if_neg c12] at H;cases H
   rw [if_pos c12] at H;have c12b0:=ct_ c12;clear c12;obtain ⟨t146,A13,H⟩:=ob_ H;by_cases c14:t146=true
   ·subst c14;rw [if_pos rfl] at H;have H':=a_ H;clear H;have p144:0≤(x18_2:Int):=md_
    have q144:x18_2<(l0_2.length:Int):=md_
    obtain ⟨ad144,e144,hx144_0,hx144_1,hx144_2,hx144_3,hx144_4,hx144_5⟩:=at_T134 HR0_2.out x18_2 p144 q144;cases e144;replace hx144_0:=mx_ HB hx144_0;replace hx144_1:=mx_ HB hx144_1;replace hx144_2:=mx_ HB hx144_2;replace hx144_3:=mx_ HB hx144_3;replace hx144_4:=mx_ HB hx144_4;replace hx144_5:=mx_ HB hx144_5;replace p144:=eq_true p144;replace q144:=eq_true q144;go_wp2_with (first|((with_reducible refine gate_dst (N:=4) rfl ?_);(try (refine gate_guard (by rfl) ?_;dsimp only));refine bh_ 4 #[.int .i64 0,.int .i64 0,.string (⟨#[]⟩:ByteArray),.int .i64 0,.int .i64 0,.string (⟨#[]⟩:ByteArray)] 134 HB ?_;intro gb145 hg wx BK145 GE145 hb;obtain ⟨NB142_145,NB145_142⟩:=mn_ BK142 hg;replace BK142:=mk_ BK142 hb;replace HB:=ms_ HB hb;clear hb hg;have nNB145_142:=NB145_142.out;have nNB142_145:=NB142_145.out;replace hz145:=cz6 BK145)|((with_reducible refine gate_callee (f:=106) rfl ?_);refine goesL_ (some 23) rfl rfl Tryz.func106 (by kernel_rfl) rfl #[.agg #[.int .i64 ((rd_T134 l0_2 x18_2).f0),.int .i64 ((rd_T134 l0_2 x18_2).f1),.string ((rd_T134 l0_2 x18_2).f2),.int .i64 ((rd_T134 l0_2 x18_2).f3.f0),.int .i64 ((rd_T134 l0_2 x18_2).f3.f1),.string ((rd_T134 l0_2 x18_2).f3.f2)]] rfl mw_ ?_;(with_reducible refine (spec_l2GoodTerm.calls k2 ((rd_T134 l0_2 x18_2).f0) ((rd_T134 l0_2 x18_2).f1) ((rd_T134 l0_2 x18_2).f2) ((rd_T134 l0_2 x18_2).f3.f0) ((rd_T134 l0_2 x18_2).f3.f1) ((rd_T134 l0_2 x18_2).f3.f2) true _ A13.out).mono ?_);rintro e wx ⟨rfl,hb⟩;refine ⟨_,rfl,?_⟩;replace BK142:=mk_ BK142 hb;replace BK145:=a_ (blk_below (g:=gb145) (o:=.cells #[.int .i64 ((rd_T134 l0_2 x18_2).f0),.int .i64 ((rd_T134 l0_2 x18_2).f1),.string ((rd_T134 l0_2 x18_2).f2),.int .i64 ((rd_T134 l0_2 x18_2).f3.f0),.int .i64 ((rd_T134 l0_2 x18_2).f3.f1),.string ((rd_T134 l0_2 x18_2).f3.f2)] 134 (0,0)) (mp_ BK145) hb);replace HB:=ms_ HB hb;(try clear hb)));go_roundg k2
    case measure=>
     have:=HJ1.out
     have:=HK2.out
     omega
    case rel=>exact ⟨(wrap64 (x18_2+1)),mq_,H',⟨by have:=HJ1.out;have:=HK2.out;omega⟩,⟨mc_ BK142⟩,⟨mb_ HB⟩⟩
   ·replace c14:=Bool.eq_false_iff.mpr c14;subst c14;rw [if_neg (show ¬(false=true) by decide)] at H;obtain rfl:=oi_ H;have p144:0≤(x18_2:Int):=md_
    have q144:x18_2<(l0_2.length:Int):=md_
    obtain ⟨ad144,e144,hx144_0,hx144_1,hx144_2,hx144_3,hx144_4,hx144_5⟩:=at_T134 HR0_2.out x18_2 p144 q144;cases e144;replace hx144_0:=mx_ HB hx144_0;replace hx144_1:=mx_ HB hx144_1;replace hx144_2:=mx_ HB hx144_2;replace hx144_3:=mx_ HB hx144_3;replace hx144_4:=mx_ HB hx144_4;replace hx144_5:=mx_ HB hx144_5;replace p144:=eq_true p144;replace q144:=eq_true q144;go_wp2_with (first|((with_reducible refine gate_dst (N:=4) rfl ?_);(try (refine gate_guard (by rfl) ?_;dsimp only));refine bh_ 4 #[.int .i64 0,.int .i64 0,.string (⟨#[]⟩:ByteArray),.int .i64 0,.int .i64 0,.string (⟨#[]⟩:ByteArray)] 134 HB ?_;intro gb145 hg wx BK145 GE145 hb;obtain ⟨NB142_145,NB145_142⟩:=mn_ BK142 hg;replace BK142:=mk_ BK142 hb;replace HB:=ms_ HB hb;clear hb hg;have nNB145_142:=NB145_142.out;have nNB142_145:=NB142_145.out;replace hz145:=cz6 BK145)|((with_reducible refine gate_callee (f:=106) rfl ?_);refine goesL_ (some 23) rfl rfl Tryz.func106 (by kernel_rfl) rfl #[.agg #[.int .i64 ((rd_T134 l0_2 x18_2).f0),.int .i64 ((rd_T134 l0_2 x18_2).f1),.string ((rd_T134 l0_2 x18_2).f2),.int .i64 ((rd_T134 l0_2 x18_2).f3.f0),.int .i64 ((rd_T134 l0_2 x18_2).f3.f1),.string ((rd_T134 l0_2 x18_2).f3.f2)]] rfl mw_ ?_;(with_reducible refine (spec_l2GoodTerm.calls k2 ((rd_T134 l0_2 x18_2).f0) ((rd_T134 l0_2 x18_2).f1) ((rd_T134 l0_2 x18_2).f2) ((rd_T134 l0_2 x18_2).f3.f0) ((rd_T134 l0_2 x18_2).f3.f1) ((rd_T134 l0_2 x18_2).f3.f2) false _ A13.out).mono ?_);rintro e wx ⟨rfl,hb⟩;refine ⟨_,rfl,?_⟩;replace BK142:=mk_ BK142 hb;replace BK145:=a_ (blk_below (g:=gb145) (o:=.cells #[.int .i64 ((rd_T134 l0_2 x18_2).f0),.int .i64 ((rd_T134 l0_2 x18_2).f1),.string ((rd_T134 l0_2 x18_2).f2),.int .i64 ((rd_T134 l0_2 x18_2).f3.f0),.int .i64 ((rd_T134 l0_2 x18_2).f3.f1),.string ((rd_T134 l0_2 x18_2).f3.f2)] 134 (0,0)) (mp_ BK145) hb);replace HB:=ms_ HB hb;(try clear hb)));go_ret;exact ⟨me_,mb_ HB⟩
  ·rw [if_neg c10] at H;have c10b0:=cf_ c10;clear c10;obtain rfl:=oi_ H;go_wp2;go_ret;exact ⟨me_,mb_ HB⟩
def spec_l2Is.l0:Nat→ByteArray→List ByteArray→Int→Int→Option (Bool)
 | 0,_,_,_,_=>none
 | k+1,x0,x7,x8,x9=>if x9<x8 then (if 0≤x9 then (if x9<(x7.length:Int) then (if x0.toList=(rdOf ByteArray.empty x7 x9).toList then (some true) else (spec_l2Is.l0 k x0 x7 x8 (wrap64 (x9+1)))) else (none)) else (none)) else (some false)
def spec_l2Is.f (k:Nat) (a0:ByteArray) (l1:List ByteArray):Option (Bool):=spec_l2Is.l0 k a0 l1 (l1.length:Int) 0
theorem spec_l2Is.mono_l:∀k,(∀y0 y1 y2 y3,LeO (spec_l2Is.l0 k y0 y1 y2 y3) (spec_l2Is.l0 (k+1) y0 y1 y2 y3))
 | 0=>fun _ _ _ _ r h=>by simp [spec_l2Is.l0] at h
 | k+1=>by
  have ih0:=spec_l2Is.mono_l k
  ·intro y0 y1 y2 y3;unfold spec_l2Is.l0
   repeat' with_reducible first|apply ih0|apply LeO.refl|apply LeO.none|refine LeO.ite ?_ ?_|refine LeO.bind ?_ (fun _=>?_)
theorem spec_l2Is.mono:∀a0 a1 k,LeO (spec_l2Is.f k a0 a1) (spec_l2Is.f (k+1) a0 a1):=by
 intro a0 a1 k;have ih0:=spec_l2Is.mono_l k;unfold spec_l2Is.f
 repeat' with_reducible first|apply ih0|apply LeO.refl|apply LeO.none|refine LeO.ite ?_ ?_|refine LeO.bind ?_ (fun _=>?_)
set_option maxHeartbeats 8000000 in
set_option maxRecDepth 100000 in
theorem spec_l2Is.calls (k:Nat) (a0:ByteArray) (A1:Option Addr) (c1:Nat) (l1:List ByteArray) (r:Bool) (w:World) (hr1:Kd.C Kd.string w A1 l1.length l1) (hc1:l1.length≤c1) (h:spec_l2Is.f k a0 l1=some r):
  Calls Tryz.prog 91 #[.string a0,.slice A1 l1.length c1] w fun e w'=>e=.returned (.bool r)∧Drawn0 w w':=by
 have HR1:=a_ hr1;have HC1:=a_ hc1;clear hr1 hc1;have H:(spec_l2Is.l0 k a0 l1 (l1.length:Int) 0)=some r:=h
 clear h;have H':=a_ H;clear H;go_enter Tryz.func91,Tryz.ntmps91;go_wp2;go_loopg [9] k (fun kq v9 w'=>∃(x9_1:Int),v9=.int .i64 x9_1∧Aside0 (spec_l2Is.l0 kq a0 l1 (l1.length:Int) x9_1=some r)∧Aside0 (kq≤k)∧Drawn0 w w')
 case atStart=>exact ⟨(0),mq_,H',⟨Nat.le_refl _⟩,by repeat (first|exact Drawn0.refl _|apply Drawn0.step)⟩
 clear H';obtain ⟨x9_1,rfl,HA,HK1,⟨m1,rfl⟩⟩:=hrel;obtain _|k1:=gk
 ·exact absurd HA.out (by simp [spec_l2Is.l0])
 have H:=HA.out;clear HA;simp only [spec_l2Is.l0] at H;by_cases c3:x9_1<(l1.length:Int)
 ·rw [if_pos c3] at H;have c3b0:=ct_ c3;clear c3;by_cases c4:0≤x9_1
  case neg=>
   rw [if_neg c4] at H;cases H
  rw [if_pos c4] at H;have c4b0:=ct_ c4;clear c4;by_cases c5:x9_1<(l1.length:Int)
  case neg=>
   rw [if_neg c5] at H;cases H
  rw [if_pos c5] at H;have c5b0:=ct_ c5;clear c5;by_cases c6:a0.toList=(rdOf ByteArray.empty l1 x9_1).toList
  ·rw [if_pos c6] at H;obtain ⟨c6b0,c6b1⟩:=bq_ c6;clear c6;obtain rfl:=oi_ H;have p147:0≤(x9_1:Int):=md_
   have q147:x9_1<(l1.length:Int):=md_
   obtain ⟨ad147,e147,hx147_0⟩:=Kd.at_string HR1.out x9_1 p147 q147;cases e147;replace p147:=eq_true p147;replace q147:=eq_true q147;go_wp2;go_ret;exact ⟨by first|rfl|(simp;done)|(simp [*];done),by repeat (first|exact Drawn0.refl _|apply Drawn0.step)⟩
  ·rw [if_neg c6] at H;obtain ⟨c6b0,c6b1⟩:=bn_ c6;have H':=a_ H;clear H;have p147:0≤(x9_1:Int):=md_
   have q147:x9_1<(l1.length:Int):=md_
   obtain ⟨ad147,e147,hx147_0⟩:=Kd.at_string HR1.out x9_1 p147 q147;cases e147;replace p147:=eq_true p147;replace q147:=eq_true q147;go_wp2;go_roundg k1
   case measure=>
    have:=HK1.out
    omega
   case rel=>exact ⟨(wrap64 (x9_1+1)),mq_,H',⟨by have:=HK1.out;omega⟩,by repeat (first|exact Drawn0.refl _|apply Drawn0.step)⟩
 ·rw [if_neg c3] at H;have c3b0:=cf_ c3;clear c3;obtain rfl:=oi_ H;go_wp2;go_ret;exact ⟨by first|rfl|(simp;done)|(simp [*];done),by repeat (first|exact Drawn0.refl _|apply Drawn0.step)⟩
end Go.Proofs.YtejjlkbbnhpbdaaGreat.P
namespace Go.Proofs.YtejjlkbbnhpbdaaGreat.P
open Go.Proofs.YtejjlkbbnhpbdaaGreatX
open Go.RowKit Go.Proofs.YtejjlkbbnhpbdaaGreatW.PrintWords Go.Proofs.YtejjlkbbnhpbdaaGreatW.PrintLast Go.Proofs.YtejjlkbbnhpbdaaGreatW.PrintMore
attribute [local go_sem] max2_int min2_int max_two min_two max_three min_three max_four min_four
set_option linter.unusedVariables false
set_option linter.unusedSimpArgs false
def spec_l2First.l0:Nat→List (S106)→Int→Option (Int)
 | 0,_,_=>none
 | k+1,x0,x1=>if 0≤x1 then (if x1<(x0.length:Int) then (if ((rd_T106 x0 x1).f0)=2 then (spec_l2First.l0 k x0 ((rd_T106 x0 x1).f4)) else (some x1)) else (none)) else (none)
def spec_l2First.f (k:Nat) (l0:List (S106)) (a1:Int):Option (Int):=spec_l2First.l0 k l0 a1
theorem spec_l2First.mono_l:∀k,(∀y0 y1,LeO (spec_l2First.l0 k y0 y1) (spec_l2First.l0 (k+1) y0 y1))
 | 0=>fun _ _ r h=>by simp [spec_l2First.l0] at h
 | k+1=>by
  have ih0:=spec_l2First.mono_l k
  ·intro y0 y1;unfold spec_l2First.l0
   repeat' with_reducible first|apply ih0|apply LeO.refl|apply LeO.none|refine LeO.ite ?_ ?_|refine LeO.bind ?_ (fun _=>?_)
theorem spec_l2First.mono:∀a0 a1 k,LeO (spec_l2First.f k a0 a1) (spec_l2First.f (k+1) a0 a1):=by
 intro a0 a1 k;have ih0:=spec_l2First.mono_l k;unfold spec_l2First.f
 repeat' with_reducible first|apply ih0|apply LeO.refl|apply LeO.none|refine LeO.ite ?_ ?_|refine LeO.bind ?_ (fun _=>?_)
set_option maxHeartbeats 8000000 in
set_option maxRecDepth 100000 in
theorem spec_l2First.calls (k:Nat) (A0:Option Addr) (c0:Nat) (l0:List (S106)) (a1:Int) (r:Int) (w:World) (hr0:Kd.C k106 w A0 l0.length l0) (hc0:l0.length≤c0) (h:spec_l2First.f k l0 a1=some r):
  Calls Tryz.prog 92 #[.slice A0 l0.length c0,.int .i64 a1] w fun e w'=>e=.returned (.int .i64 r)∧Drawn0 w w':=by
 have HR0:=a_ hr0;have HC0:=a_ hc0;clear hr0 hc0;have H:(spec_l2First.l0 k l0 a1)=some r:=h
 clear h;have H':=a_ H;clear H;go_enter Tryz.func92,Tryz.ntmps92;go_wp2;go_loopg [1] k (fun kq v1 w'=>∃(x1_1:Int),v1=.int .i64 x1_1∧Aside0 (spec_l2First.l0 kq l0 x1_1=some r)∧Aside0 (kq≤k)∧Drawn0 w w')
 case atStart=>exact ⟨(a1),mq_,H',⟨Nat.le_refl _⟩,by repeat (first|exact Drawn0.refl _|apply Drawn0.step)⟩
 clear H';obtain ⟨x1_1,rfl,HA,HK1,⟨m1,rfl⟩⟩:=hrel;obtain _|k1:=gk
 ·exact absurd HA.out (by simp [spec_l2First.l0])
 have H:=HA.out;clear HA;simp only [spec_l2First.l0] at H;by_cases c3:0≤x1_1
 case neg=>
  rw [if_neg c3] at H;cases H
 rw [if_pos c3] at H;have c3b0:=ct_ c3;clear c3;by_cases c4:x1_1<(l0.length:Int)
 case neg=>
  rw [if_neg c4] at H;cases H
 rw [if_pos c4] at H;have c4b0:=ct_ c4;clear c4;by_cases c5:((rd_T106 l0 x1_1).f0)=2
 ·rw [if_pos c5] at H;obtain ⟨c5b0,c5b1⟩:=bq_ c5;clear c5;have H':=a_ H;clear H;have p148:0≤(x1_1:Int):=md_
  have q148:x1_1<(l0.length:Int):=md_
  obtain ⟨ad148,e148,hx148_0,hx148_1,hx148_2,hx148_3,hx148_4,hx148_5,hx148_6,hx148_7⟩:=at_T106 HR0.out x1_1 p148 q148;cases e148;replace p148:=eq_true p148;replace q148:=eq_true q148;have p149:0≤(x1_1:Int):=md_
  have q149:x1_1<(l0.length:Int):=md_
  obtain ⟨ad149,e149,hx149_0,hx149_1,hx149_2,hx149_3,hx149_4,hx149_5,hx149_6,hx149_7⟩:=at_T106 HR0.out x1_1 p149 q149;obtain rfl:ad148=ad149:=(by injection e149);replace p149:=eq_true p149;replace q149:=eq_true q149;go_wp2;go_roundg k1
  case measure=>
   have:=HK1.out
   omega
  case rel=>exact ⟨((rd_T106 l0 x1_1).f4),mq_,H',⟨by have:=HK1.out;omega⟩,by repeat (first|exact Drawn0.refl _|apply Drawn0.step)⟩
 ·rw [if_neg c5] at H;obtain ⟨c5b0,c5b1⟩:=bn_ c5;obtain rfl:=oi_ H;have p148:0≤(x1_1:Int):=md_
  have q148:x1_1<(l0.length:Int):=md_
  obtain ⟨ad148,e148,hx148_0,hx148_1,hx148_2,hx148_3,hx148_4,hx148_5,hx148_6,hx148_7⟩:=at_T106 HR0.out x1_1 p148 q148;cases e148;replace p148:=eq_true p148;replace q148:=eq_true q148;go_wp2;go_ret;exact ⟨by first|rfl|(simp;done)|(simp [*];done),by repeat (first|exact Drawn0.refl _|apply Drawn0.step)⟩
def spec_l2Ariths.f  : Option (List ByteArray):=some (([(⟨#[43]⟩:ByteArray),(⟨#[45]⟩:ByteArray),(⟨#[42]⟩:ByteArray),(⟨#[47]⟩:ByteArray),(⟨#[37]⟩:ByteArray)]:List ByteArray))
set_option maxHeartbeats 8000000 in
set_option maxRecDepth 100000 in
theorem spec_l2Ariths.calls  (r:List ByteArray) (w:World) (h:spec_l2Ariths.f  = some r):
  Calls Tryz.prog 109 #[] w fun e w'=>∃v0_:Value,e=.returned (v0_)∧Kd.R Kd.string 9 w' w.heap.size (fun _=>True) v0_ r∧Below w.heap.size w w':=by
 have HB:=a_ (Below.refl w.heap.size w);have H:=h;unfold spec_l2Ariths.f at H
 clear h;obtain ⟨y150,hy150⟩:∃y_:List ByteArray,y_=(([(⟨#[43]⟩:ByteArray),(⟨#[45]⟩:ByteArray),(⟨#[42]⟩:ByteArray),(⟨#[47]⟩:ByteArray),(⟨#[37]⟩:ByteArray)]:List ByteArray)):=⟨_,rfl⟩;rw [←hy150] at H;(try rw [Option.bind_some] at H);have Ny150:=a_ hy150;clear hy150;obtain rfl:=oi_ H;go_enter Tryz.func109,Tryz.ntmps109;go_wp2_with (first|((with_reducible refine gate_dst (N:=1) rfl ?_);refine Kd.R_lit Kd.string _ 9 ?hg (N:=1) ?hd (xs:=([(⟨#[43]⟩:ByteArray),(⟨#[45]⟩:ByteArray),(⟨#[42]⟩:ByteArray),(⟨#[47]⟩:ByteArray),(⟨#[37]⟩:ByteArray)]:List ByteArray)) (inner:=[.string (⟨#[43]⟩:ByteArray),.string (⟨#[45]⟩:ByteArray),.string (⟨#[42]⟩:ByteArray),.string (⟨#[47]⟩:ByteArray),.string (⟨#[37]⟩:ByteArray)]) (ok:=fun _=>True) (okp:=fun _=>True) ?hr ?hp (fun _ hk=>hk) trivial (Below.refl _ _) (Nat.le_refl _) (by simp) ?_;(case hd=>rfl);(case hg=>rfl);(case hr=>first|(go_simp;done)|(go_simp;rfl));(case hp=>exact (Reps.one (show Kd.M Kd.string _ _ _ (⟨#[43]⟩:ByteArray) [.string (⟨#[43]⟩:ByteArray)] from rfl) (Reps.one (show Kd.M Kd.string _ _ _ (⟨#[45]⟩:ByteArray) [.string (⟨#[45]⟩:ByteArray)] from rfl) (Reps.one (show Kd.M Kd.string _ _ _ (⟨#[42]⟩:ByteArray) [.string (⟨#[42]⟩:ByteArray)] from rfl) (Reps.one (show Kd.M Kd.string _ _ _ (⟨#[47]⟩:ByteArray) [.string (⟨#[47]⟩:ByteArray)] from rfl) (Reps.one (show Kd.M Kd.string _ _ _ (⟨#[37]⟩:ByteArray) [.string (⟨#[37]⟩:ByteArray)] from rfl) (Reps.none _ _)))))));intro v151 wx ho2 hb hg_ hnew_;clear hg_ hnew_;(first|rw [←Ny150.out] at ho2|(simp only [Int.reduceToNat] at ho2;rw [←Ny150.out] at ho2));have HO152:=a_ (Kd.R_lower ho2 (below_size (mb_ HB)));replace HB:=ms_ HB hb;clear hb ho2));go_ret;exact ⟨_,me_,mo_ HO152.out,mb_ HB⟩
def spec_l2Depth.f:Nat→List (S106)→Int→Option (Int)
 | 0,_,_=>none
 | k+1,l0,a1=>if 0≤a1 then (if a1<(l0.length:Int) then (if ((rd_T106 l0 a1).f0)=2 then ((spec_l2Depth.f k l0 ((rd_T106 l0 a1).f4)).bind fun t155=>((spec_l2Depth.f k l0 ((rd_T106 l0 a1).f5)).bind fun t157=>(if t155<t157 then (some (wrap64 (t157+1))) else (some (wrap64 (t155+1)))))) else (some 0)) else (none)) else (none)
theorem spec_l2Depth.mono_l:∀k,(∀y0 y1,LeO (spec_l2Depth.f k y0 y1) (spec_l2Depth.f (k+1) y0 y1))
 | 0=>fun _ _ r h=>by simp [spec_l2Depth.f] at h
 | k+1=>by
  have ih0:=spec_l2Depth.mono_l k
  ·intro y0 y1;unfold spec_l2Depth.f
   repeat' with_reducible first|apply ih0|apply LeO.refl|apply LeO.none|refine LeO.ite ?_ ?_|refine LeO.bind ?_ (fun _=>?_)
theorem spec_l2Depth.mono:∀a0 a1 k,LeO (spec_l2Depth.f k a0 a1) (spec_l2Depth.f (k+1) a0 a1):=by
 intro a0 a1 k;have ih0:=spec_l2Depth.mono_l k;exact ih0 a0 a1
theorem ua35_0 {p:Prop} (h:p:=by
 clear c8;obtain rfl:=oi_ H;have p153:0≤(a1:Int):=md_
 have q153:a1<(l0.length:Int):=md_
 obtain ⟨ad153,e153,hx153_0,hx153_1,hx153_2,hx153_3,hx153_4,hx153_5,hx153_6,hx153_7⟩:=at_T106 HR0.out a1 p153 q153;cases e153;replace p153:=eq_true p153;replace q153:=eq_true q153;have p154:0≤(a1:Int):=md_
 have q154:a1<(l0.length:Int):=md_
 obtain ⟨ad154,e154,hx154_0,hx154_1,hx154_2,hx154_3,hx154_4,hx154_5,hx154_6,hx154_7⟩:=at_T106 HR0.out a1 p154 q154;obtain rfl:ad153=ad154:=(by injection e154);replace p154:=eq_true p154;replace q154:=eq_true q154;go_enter Tryz.func110,Tryz.ntmps110;go_wp2_with (first|((with_reducible refine gate_callee (f:=110) rfl ?_);refine goesL_ (some 19) rfl rfl Tryz.func110 (by kernel_rfl) rfl #[.slice (some ad153) l0.length c0,.int .i64 ((rd_T106 l0 a1).f4)] rfl mw_ ?_;(with_reducible refine (ih k (by omega) _ _ l0 ((rd_T106 l0 a1).f4) t155 _ ?side1 HC0.out A6.out).mono ?_);(case side1=>repeat (first|exact HR0.out|(with_reducible refine Kd.C_alloc ?_ _)|(with_reducible refine Kd.C_drewN ?_ _)|(with_reducible refine Kd.C_drew ?_)));rintro e w' ⟨rfl,⟨nd,rfl⟩⟩;refine ⟨_,rfl,?_⟩;have p156:0≤(a1:Int):=md_;have q156:a1<(l0.length:Int):=md_;obtain ⟨ad156,e156,hx156_0,hx156_1,hx156_2,hx156_3,hx156_4,hx156_5,hx156_6,hx156_7⟩:=at_T106 HR0.out a1 p156 q156;obtain rfl:ad153=ad156:=(by injection e156);replace p156:=eq_true p156;replace q156:=eq_true q156)|((with_reducible refine gate_callee (f:=110) rfl ?_);refine goesL_ (some 26) rfl rfl Tryz.func110 (by kernel_rfl) rfl #[.slice (some ad153) l0.length c0,.int .i64 ((rd_T106 l0 a1).f5)] rfl mw_ ?_;(with_reducible refine (ih k (by omega) _ _ l0 ((rd_T106 l0 a1).f5) t157 _ ?side1 HC0.out A7.out).mono ?_);(case side1=>repeat (first|exact HR0.out|(with_reducible refine Kd.C_alloc ?_ _)|(with_reducible refine Kd.C_drewN ?_ _)|(with_reducible refine Kd.C_drew ?_)));rintro e w' ⟨rfl,⟨nd,rfl⟩⟩;refine ⟨_,rfl,?_⟩));go_ret;exact ⟨by first|rfl|(simp;done)|(simp [*];done),by repeat (first|exact Drawn0.refl _|apply Drawn0.step)⟩):p:=h
set_option maxHeartbeats 8000000 in
set_option maxRecDepth 100000 in
theorem spec_l2Depth.calls (k:Nat):∀(A0:Option Addr) (c0:Nat) (l0:List (S106)) (a1:Int) (r:Int) (w:World) (hr0:Kd.C k106 w A0 l0.length l0) (hc0:l0.length≤c0) (h:spec_l2Depth.f k l0 a1=some r),
  Calls Tryz.prog 110 #[.slice A0 l0.length c0,.int .i64 a1] w fun e w'=>e=.returned (.int .i64 r)∧Drawn0 w w':=by
 induction k using Nat.strongRecOn with
 | _ k ih=>
 intro A0 c0 l0 a1 r w hr0 hc0 h;cases k with
 | zero=>exact absurd h (by simp [spec_l2Depth.f])
 | succ k=>
 simp only [spec_l2Depth.f] at h;have HR0:=a_ hr0;have HC0:=a_ hc0;clear hr0 hc0;have H:(if 0≤a1 then (if a1<(l0.length:Int) then (if ((rd_T106 l0 a1).f0)=2 then ((spec_l2Depth.f k l0 ((rd_T106 l0 a1).f4)).bind fun t155=>((spec_l2Depth.f k l0 ((rd_T106 l0 a1).f5)).bind fun t157=>(if t155<t157 then (some (wrap64 (t157+1))) else (some (wrap64 (t155+1)))))) else (some 0)) else (none)) else (none))=some r:=h
 clear h;by_cases c3:0≤a1
 case neg=>
  rw [if_neg c3] at H;cases H
 rw [if_pos c3] at H;have c3b0:=ct_ c3;clear c3;by_cases c4:a1<(l0.length:Int)
 case neg=>
  rw [if_neg c4] at H;cases H
 rw [if_pos c4] at H;have c4b0:=ct_ c4;clear c4;by_cases c5:((rd_T106 l0 a1).f0)=2
 ·rw [if_pos c5] at H;obtain ⟨c5b0,c5b1⟩:=bq_ c5;clear c5;obtain ⟨t155,A6,H⟩:=ob_ H;obtain ⟨t157,A7,H⟩:=ob_ H;by_cases c8:t155<t157
  ·rw [if_pos c8] at H;have c8b0:=ct_ c8;exact ua35_0
  ·rw [if_neg c8] at H;have c8b0:=cf_ c8;exact ua35_0
 ·rw [if_neg c5] at H;obtain ⟨c5b0,c5b1⟩:=bn_ c5;obtain rfl:=oi_ H;have p153:0≤(a1:Int):=md_
  have q153:a1<(l0.length:Int):=md_
  obtain ⟨ad153,e153,hx153_0,hx153_1,hx153_2,hx153_3,hx153_4,hx153_5,hx153_6,hx153_7⟩:=at_T106 HR0.out a1 p153 q153;cases e153;replace p153:=eq_true p153;replace q153:=eq_true q153;go_enter Tryz.func110,Tryz.ntmps110;go_wp2;go_ret;exact ⟨by first|rfl|(simp;done)|(simp [*];done),by repeat (first|exact Drawn0.refl _|apply Drawn0.step)⟩
end Go.Proofs.YtejjlkbbnhpbdaaGreat.P
namespace Go.Proofs.YtejjlkbbnhpbdaaGreat.P
open Go.Proofs.YtejjlkbbnhpbdaaGreatX
open Go.RowKit Go.Proofs.YtejjlkbbnhpbdaaGreatW.PrintWords Go.Proofs.YtejjlkbbnhpbdaaGreatW.PrintLast Go.Proofs.YtejjlkbbnhpbdaaGreatW.PrintMore
attribute [local go_sem] max2_int min2_int max_two min_two max_three min_three max_four min_four
set_option linter.unusedVariables false
set_option linter.unusedSimpArgs false
mutual
def spec_l2GoodExpr.j0:Nat→List (S106)→Int→Bool→Int→Int→ByteArray→Int→Int→ByteArray→Int→Int→Option (Bool)
 | 0,_,_,_,_,_,_,_,_,_,_,_=>none
 | k+1,x0,x1,x6,x160000,x160001,x160002,x160003,x160004,x160005,x160006,x160007=>if x160000=0 then (if x6=true then (if x160002.toList=([]:List UInt8) then ((spec_l1GoodVal.f k x160003 x160004 x160005).bind fun t160=>(some t160)) else (some false)) else (some false)) else (if x160000=1 then (if x6=true then ((spec_l1GoodSym.f k x160002).bind fun t161=>(if t161=true then ((spec_l2Zero.f x160003 x160004 x160005).bind fun t162=>(some t162)) else (some false))) else (some false)) else (if x160000=2 then ((spec_l2Ariths.f).bind fun t166=>((spec_l2Is.f k (strOfNums (([x160001]:List Int))) t166).bind fun t169=>(if t169=true then (if x160002.toList=([]:List UInt8) then ((spec_l2Zero.f x160003 x160004 x160005).bind fun t170=>(if t170=true then (if x160007=(wrap64 (x1-1)) then (if x160007<0 then (spec_l2GoodExpr.j1 k x0 x1 true x160000 x160001 x160002 x160003 x160004 x160005 x160006 x160007) else (spec_l2GoodExpr.j1 k x0 x1 (decide (x160006<0)) x160000 x160001 x160002 x160003 x160004 x160005 x160006 x160007)) else (spec_l2GoodExpr.j1 k x0 x1 true x160000 x160001 x160002 x160003 x160004 x160005 x160006 x160007)) else (spec_l2GoodExpr.j1 k x0 x1 true x160000 x160001 x160002 x160003 x160004 x160005 x160006 x160007))) else (spec_l2GoodExpr.j1 k x0 x1 true x160000 x160001 x160002 x160003 x160004 x160005 x160006 x160007)) else (spec_l2GoodExpr.j1 k x0 x1 true x160000 x160001 x160002 x160003 x160004 x160005 x160006 x160007)))) else (some false)))
def spec_l2GoodExpr.j1:Nat→List (S106)→Int→Bool→Int→Int→ByteArray→Int→Int→ByteArray→Int→Int→Option (Bool)
 | 0,_,_,_,_,_,_,_,_,_,_,_=>none
 | k+1,x0,x1,x88,x160000,x160001,x160002,x160003,x160004,x160005,x160006,x160007=>if x88=true then (some false) else ((spec_l2First.f k x0 x160007).bind fun t171=>(if x160006=(wrap64 (t171-1)) then ((spec_l2Depth.f k x0 x1).bind fun t172=>(some (decide (t172≤20)))) else (some false)))
end
def spec_l2GoodExpr.f (k:Nat) (l0:List (S106)) (a1:Int):Option (Bool):=if 0≤a1 then (if a1<(l0.length:Int) then (if ((rd_T106 l0 a1).f1)=0 then (if ((rd_T106 l0 a1).f4)=0 then (spec_l2GoodExpr.j0 k l0 a1 (((rd_T106 l0 a1).f5)==0) ((rd_T106 l0 a1).f0) ((rd_T106 l0 a1).f1) ((rd_T106 l0 a1).f2) ((rd_T106 l0 a1).f3.f0) ((rd_T106 l0 a1).f3.f1) ((rd_T106 l0 a1).f3.f2) ((rd_T106 l0 a1).f4) ((rd_T106 l0 a1).f5)) else (spec_l2GoodExpr.j0 k l0 a1 false ((rd_T106 l0 a1).f0) ((rd_T106 l0 a1).f1) ((rd_T106 l0 a1).f2) ((rd_T106 l0 a1).f3.f0) ((rd_T106 l0 a1).f3.f1) ((rd_T106 l0 a1).f3.f2) ((rd_T106 l0 a1).f4) ((rd_T106 l0 a1).f5))) else (spec_l2GoodExpr.j0 k l0 a1 false ((rd_T106 l0 a1).f0) ((rd_T106 l0 a1).f1) ((rd_T106 l0 a1).f2) ((rd_T106 l0 a1).f3.f0) ((rd_T106 l0 a1).f3.f1) ((rd_T106 l0 a1).f3.f2) ((rd_T106 l0 a1).f4) ((rd_T106 l0 a1).f5))) else (none)) else (none)
theorem spec_l2GoodExpr.mono_l:∀k,(∀y0 y1 y2 y3 y4 y5 y6 y7 y8 y9 y10,LeO (spec_l2GoodExpr.j0 k y0 y1 y2 y3 y4 y5 y6 y7 y8 y9 y10) (spec_l2GoodExpr.j0 (k+1) y0 y1 y2 y3 y4 y5 y6 y7 y8 y9 y10))∧(∀y0 y1 y2 y3 y4 y5 y6 y7 y8 y9 y10,LeO (spec_l2GoodExpr.j1 k y0 y1 y2 y3 y4 y5 y6 y7 y8 y9 y10) (spec_l2GoodExpr.j1 (k+1) y0 y1 y2 y3 y4 y5 y6 y7 y8 y9 y10))
 | 0=>⟨fun _ _ _ _ _ _ _ _ _ _ _ r h=>by simp [spec_l2GoodExpr.j0] at h,fun _ _ _ _ _ _ _ _ _ _ _ r h=>by simp [spec_l2GoodExpr.j1] at h⟩
 | k+1=>by
  obtain ⟨ih0,ih1⟩:=spec_l2GoodExpr.mono_l k;refine ⟨?_,?_⟩
  ·intro y0 y1 y2 y3 y4 y5 y6 y7 y8 y9 y10;unfold spec_l2GoodExpr.j0
   repeat' with_reducible first|apply ih0|apply ih1|apply spec_l1GoodSym.mono|apply spec_l1GoodVal.mono|apply spec_l2Depth.mono|apply spec_l2First.mono|apply spec_l2Is.mono|apply LeO.refl|apply LeO.none|refine LeO.ite ?_ ?_|refine LeO.bind ?_ (fun _=>?_)
  ·intro y0 y1 y2 y3 y4 y5 y6 y7 y8 y9 y10;unfold spec_l2GoodExpr.j1
   repeat' with_reducible first|apply ih0|apply ih1|apply spec_l1GoodSym.mono|apply spec_l1GoodVal.mono|apply spec_l2Depth.mono|apply spec_l2First.mono|apply spec_l2Is.mono|apply LeO.refl|apply LeO.none|refine LeO.ite ?_ ?_|refine LeO.bind ?_ (fun _=>?_)
theorem spec_l2GoodExpr.mono:∀a0 a1 k,LeO (spec_l2GoodExpr.f k a0 a1) (spec_l2GoodExpr.f (k+1) a0 a1):=by
 intro a0 a1 k;obtain ⟨ih0,ih1⟩:=spec_l2GoodExpr.mono_l k;unfold spec_l2GoodExpr.f
 repeat' with_reducible first|apply ih0|apply ih1|apply spec_l1GoodSym.mono|apply spec_l1GoodVal.mono|apply spec_l2Depth.mono|apply spec_l2First.mono|apply spec_l2Is.mono|apply LeO.refl|apply LeO.none|refine LeO.ite ?_ ?_|refine LeO.bind ?_ (fun _=>?_)
def spec_l2GoodExpr.T9:Bool×List (List Nat×List Nat):=(true,[([],[]),([0],[0]),([1],[1]),([2],[2]),([],[]),([3,4,4],[3,4]),([5],[5]),([6,5],[6]),([7],[7]),([8,7],[7,8]),([9,7],[7,9]),([7,10],[7,10]),([11,7],[11]),([12],[12]),([13,12],[12,13]),([14,12,12],[12,14]),([15,12],[12,15]),([12,16],[12,16]),([17,15],[17]),([18],[18]),([19,18],[18,19]),([18],[18]),([21,18],[18,21]),([20,22,18],[18,20,22]),([18,23],[18,23]),([24,18],[24]),([25],[25]),([26,25],[25,26]),([27,25],[25,27]),([25,28],[25,28]),([29,25],[29]),([30],[30]),([31,30],[30,31]),([32,30],[30,32]),([30,33],[30,33])])
def spec_l2GoodExpr.B9:List Nat:=[0,1,3,7,0,31,63,127,255,511,1023,2047,4095,8191,16383,32767,65535,131071,262143,524287,1048575,524287,2621439,8388607,16777215,33554431,67108863,134217727,268435455,536870911,1073741823,2147483647,4294967295,8589934591,17179869183]
theorem spec_l2GoodExpr.tab9:rtab .any (opsOf Tryz.f89 9)=spec_l2GoodExpr.T9:=by kernel_rfl
theorem spec_l2GoodExpr.bits9:waitsOk spec_l2GoodExpr.T9.2 spec_l2GoodExpr.B9=true:=by kernel_rfl
def spec_l2GoodExpr.T11:Bool×List (List Nat×List Nat):=(true,[([],[]),([0],[0]),([],[]),([],[]),([3],[3]),([2,4],[2,4]),([5],[5]),([1,6],[1,6]),([7,5],[7]),([8],[8]),([8],[8]),([9,10,8,8],[8,9,10]),([11,8],[8,11]),([8,12],[8,12]),([13,11,0,1,2,3,4,5,6,7,8,9,10,11,12,13],[13])])
def spec_l2GoodExpr.B11:List Nat:=[0,1,0,0,8,28,60,127,255,511,511,2047,4095,8191,16383]
theorem spec_l2GoodExpr.tab11:rtab .any (opsOf Tryz.f89 11)=spec_l2GoodExpr.T11:=by kernel_rfl
theorem spec_l2GoodExpr.bits11:waitsOk spec_l2GoodExpr.T11.2 spec_l2GoodExpr.B11=true:=by kernel_rfl
abbrev be48_0:Array Bool:=#[f_,f_,f_,f_,f_,f_,f_,f_,f_,f_,f_,f_,f_,f_,f_,f_,f_,f_,f_,f_,f_,f_,f_,f_,f_,f_,f_,f_,f_,f_,f_,f_,f_,f_,f_]
abbrev be48_1:Array Bool:=#[t_,f_,f_,f_,f_,f_,f_,f_,f_,f_,f_,f_,f_,f_,f_,f_,f_,f_,f_,f_,f_,f_,f_,f_,f_,f_,f_,f_,f_,f_,f_,f_,f_,f_,f_]
abbrev be48_2:Array Bool:=#[t_,t_,f_,f_,f_,f_,f_,f_,f_,f_,f_,f_,f_,f_,f_,f_,f_,f_,f_,f_,f_,f_,f_,f_,f_,f_,f_,f_,f_,f_,f_,f_,f_,f_,f_]
abbrev be48_3:Array Bool:=#[t_,t_,t_,t_,t_,f_,f_,f_,f_,f_,f_,f_,f_,f_,f_,f_,f_,f_,f_,f_,f_,f_,f_,f_,f_,f_,f_,f_,f_,f_,f_,f_,f_,f_,f_]
abbrev be48_4:Array Bool:=#[t_,t_,t_,f_,f_,f_,f_,f_,f_,f_,f_,f_,f_,f_,f_,f_,f_,f_,f_,f_,f_,f_,f_,f_,f_,f_,f_,f_,f_,f_,f_,f_,f_,f_,f_]
abbrev be48_5:Array Bool:=#[t_,t_,f_,f_,t_,f_,f_,f_,f_,f_,f_,f_,f_,f_,f_,f_,f_,f_,f_,f_,f_,f_,f_,f_,f_,f_,f_,f_,f_,f_,f_,f_,f_,f_,f_]
abbrev be48_6:Array Bool:=#[t_,t_,t_,t_,f_,f_,f_,f_,f_,f_,f_,f_,f_,f_,f_,f_,f_,f_,f_,f_,f_,f_,f_,f_,f_,f_,f_,f_,f_,f_,f_,f_,f_,f_,f_]
abbrev be48_7:Array Bool:=#[t_,t_,t_,f_,t_,f_,f_,f_,f_,f_,f_,f_,f_,f_,f_,f_,f_,f_,f_,f_,f_,f_,f_,f_,f_,f_,f_,f_,f_,f_,f_,f_,f_,f_,f_]
abbrev be48_8:Array Bool:=#[t_,t_,t_,t_,t_,t_,f_,f_,f_,f_,f_,f_,f_,f_,f_,f_,f_,f_,f_,f_,f_,f_,f_,f_,f_,f_,f_,f_,f_,f_,f_,f_,f_,f_,f_]
abbrev be48_9:Array Bool:=#[t_,t_,t_,t_,t_,t_,t_,f_,f_,f_,f_,f_,f_,f_,f_,f_,f_,f_,f_,f_,f_,f_,f_,f_,f_,f_,f_,f_,f_,f_,f_,f_,f_,f_,f_]
abbrev be48_10:Array Bool:=#[t_,t_,t_,t_,t_,t_,t_,t_,f_,f_,f_,f_,f_,f_,f_,f_,f_,f_,f_,f_,f_,f_,f_,f_,f_,f_,f_,f_,f_,f_,f_,f_,f_,f_,f_]
abbrev be48_11:Array Bool:=#[t_,t_,t_,t_,t_,t_,t_,t_,t_,f_,f_,f_,f_,f_,f_,f_,f_,f_,f_,f_,f_,f_,f_,f_,f_,f_,f_,f_,f_,f_,f_,f_,f_,f_,f_]
abbrev be48_12:Array Bool:=#[t_,t_,t_,t_,t_,t_,t_,t_,t_,t_,f_,f_,f_,f_,f_,f_,f_,f_,f_,f_,f_,f_,f_,f_,f_,f_,f_,f_,f_,f_,f_,f_,f_,f_,f_]
abbrev be48_13:Array Bool:=#[t_,t_,t_,t_,t_,t_,t_,t_,t_,t_,t_,f_,f_,f_,f_,f_,f_,f_,f_,f_,f_,f_,f_,f_,f_,f_,f_,f_,f_,f_,f_,f_,f_,f_,f_]
abbrev be48_14:Array Bool:=#[t_,t_,t_,t_,t_,t_,t_,t_,t_,t_,t_,t_,f_,f_,f_,f_,f_,f_,f_,f_,f_,f_,f_,f_,f_,f_,f_,f_,f_,f_,f_,f_,f_,f_,f_]
abbrev be48_15:Array Bool:=#[t_,t_,t_,t_,t_,t_,t_,t_,t_,t_,t_,t_,t_,f_,f_,f_,f_,f_,f_,f_,f_,f_,f_,f_,f_,f_,f_,f_,f_,f_,f_,f_,f_,f_,f_]
abbrev be48_16:Array Bool:=#[t_,t_,t_,t_,t_,t_,t_,t_,t_,t_,t_,t_,t_,t_,f_,f_,f_,f_,f_,f_,f_,f_,f_,f_,f_,f_,f_,f_,f_,f_,f_,f_,f_,f_,f_]
abbrev be48_17:Array Bool:=#[t_,t_,t_,t_,t_,t_,t_,t_,t_,t_,t_,t_,t_,t_,t_,f_,f_,f_,f_,f_,f_,f_,f_,f_,f_,f_,f_,f_,f_,f_,f_,f_,f_,f_,f_]
abbrev be48_18:Array Bool:=#[t_,t_,t_,t_,t_,t_,t_,t_,t_,t_,t_,t_,t_,t_,t_,t_,f_,f_,f_,f_,f_,f_,f_,f_,f_,f_,f_,f_,f_,f_,f_,f_,f_,f_,f_]
abbrev be48_19:Array Bool:=#[t_,t_,t_,t_,t_,t_,t_,t_,t_,t_,t_,t_,t_,t_,t_,t_,t_,f_,f_,f_,f_,f_,f_,f_,f_,f_,f_,f_,f_,f_,f_,f_,f_,f_,f_]
abbrev be48_20:Array Bool:=#[t_,t_,t_,t_,t_,t_,t_,t_,t_,t_,t_,t_,t_,t_,t_,t_,t_,t_,f_,f_,f_,f_,f_,f_,f_,f_,f_,f_,f_,f_,f_,f_,f_,f_,f_]
abbrev be48_21:Array Bool:=#[t_,t_,t_,t_,t_,t_,t_,t_,t_,t_,t_,t_,t_,t_,t_,t_,t_,t_,t_,f_,f_,f_,f_,f_,f_,f_,f_,f_,f_,f_,f_,f_,f_,f_,f_]
abbrev be48_22:Array Bool:=#[t_,t_,t_,t_,t_,t_,t_,t_,t_,t_,t_,t_,t_,t_,t_,t_,t_,t_,t_,t_,f_,f_,f_,f_,f_,f_,f_,f_,f_,f_,f_,f_,f_,f_,f_]
abbrev be48_23:Array Bool:=#[t_,t_,t_,t_,t_,t_,t_,t_,t_,t_,t_,t_,t_,t_,t_,t_,t_,t_,t_,t_,f_,t_,f_,f_,f_,f_,f_,f_,f_,f_,f_,f_,f_,f_,f_]
abbrev be48_24:Array Bool:=#[t_,t_,t_,t_,t_,t_,t_,t_,t_,t_,t_,t_,t_,t_,t_,t_,t_,t_,t_,t_,f_,t_,t_,f_,f_,f_,f_,f_,f_,f_,f_,f_,f_,f_,f_]
abbrev be48_25:Array Bool:=#[t_,t_,t_,t_,t_,t_,t_,t_,t_,t_,t_,t_,t_,t_,t_,t_,t_,t_,t_,t_,t_,t_,t_,f_,f_,f_,f_,f_,f_,f_,f_,f_,f_,f_,f_]
abbrev be48_26:Array Bool:=#[t_,t_,t_,t_,t_,t_,t_,t_,t_,t_,t_,t_,t_,t_,t_,t_,t_,t_,t_,t_,t_,t_,t_,t_,f_,f_,f_,f_,f_,f_,f_,f_,f_,f_,f_]
abbrev be48_27:Array Bool:=#[t_,t_,t_,t_,t_,t_,t_,t_,t_,t_,t_,t_,t_,t_,t_,t_,t_,t_,t_,t_,t_,t_,t_,t_,t_,f_,f_,f_,f_,f_,f_,f_,f_,f_,f_]
abbrev be48_28:Array Bool:=#[t_,t_,t_,t_,t_,t_,t_,t_,t_,t_,t_,t_,t_,t_,t_,t_,t_,t_,t_,t_,t_,t_,t_,t_,t_,t_,f_,f_,f_,f_,f_,f_,f_,f_,f_]
abbrev be48_29:Array Bool:=#[t_,t_,t_,t_,t_,t_,t_,t_,t_,t_,t_,t_,t_,t_,t_,t_,t_,t_,t_,t_,t_,t_,t_,t_,t_,t_,t_,f_,f_,f_,f_,f_,f_,f_,f_]
abbrev be48_30:Array Bool:=#[t_,t_,t_,t_,t_,t_,t_,t_,t_,t_,t_,t_,t_,t_,t_,t_,t_,t_,t_,t_,t_,t_,t_,t_,t_,t_,t_,t_,f_,f_,f_,f_,f_,f_,f_]
abbrev be48_31:Array Bool:=#[t_,t_,t_,t_,t_,t_,t_,t_,t_,t_,t_,t_,t_,t_,t_,t_,t_,t_,t_,t_,t_,t_,t_,t_,t_,t_,t_,t_,t_,f_,f_,f_,f_,f_,f_]
abbrev be48_32:Array Bool:=#[t_,t_,t_,t_,t_,t_,t_,t_,t_,t_,t_,t_,t_,t_,t_,t_,t_,t_,t_,t_,t_,t_,t_,t_,t_,t_,t_,t_,t_,t_,f_,f_,f_,f_,f_]
abbrev be48_33:Array Bool:=#[t_,t_,t_,t_,t_,t_,t_,t_,t_,t_,t_,t_,t_,t_,t_,t_,t_,t_,t_,t_,t_,t_,t_,t_,t_,t_,t_,t_,t_,t_,t_,f_,f_,f_,f_]
abbrev be48_34:Array Bool:=#[t_,t_,t_,t_,t_,t_,t_,t_,t_,t_,t_,t_,t_,t_,t_,t_,t_,t_,t_,t_,t_,t_,t_,t_,t_,t_,t_,t_,t_,t_,t_,t_,f_,f_,f_]
abbrev be48_35:Array Bool:=#[t_,t_,t_,t_,t_,t_,t_,t_,t_,t_,t_,t_,t_,t_,t_,t_,t_,t_,t_,t_,t_,t_,t_,t_,t_,t_,t_,t_,t_,t_,t_,t_,t_,f_,f_]
abbrev be48_36:Array Bool:=#[t_,t_,t_,t_,t_,t_,t_,t_,t_,t_,t_,t_,t_,t_,t_,t_,t_,t_,t_,t_,t_,t_,t_,t_,t_,t_,t_,t_,t_,t_,t_,t_,t_,t_,f_]
abbrev be48_37:Array Bool:=#[t_,t_,t_,t_,t_,t_,t_,t_,t_,t_,t_,t_,t_,t_,t_,t_,t_,t_,t_,t_,t_,t_,t_,t_,t_,t_,t_,t_,t_,t_,t_,t_,t_,t_,t_]
abbrev be48_38:Array Bool:=#[t_,t_,t_,t_,t_,t_,t_,t_,t_,t_,t_,t_,t_,t_,t_,t_,t_,t_,t_,t_,t_,f_,f_,f_,f_,f_,f_,f_,f_,f_,f_,f_,f_,f_,f_]
abbrev be48_39:Array Bool:=#[t_,t_,t_,t_,t_,t_,t_,t_,t_,t_,t_,t_,t_,t_,t_,t_,t_,t_,t_,t_,t_,t_,f_,f_,f_,f_,f_,f_,f_,f_,f_,f_,f_,f_,f_]
abbrev be48_40:Array Bool:=#[f_,f_,f_,f_,f_,f_,f_,f_,f_,f_,f_,f_,f_,f_,f_]
abbrev be48_41:Array Bool:=#[t_,f_,f_,f_,f_,f_,f_,f_,f_,f_,f_,f_,f_,f_,f_]
abbrev be48_42:Array Bool:=#[t_,f_,t_,f_,f_,f_,f_,f_,f_,f_,f_,f_,f_,f_,f_]
abbrev be48_43:Array Bool:=#[t_,f_,t_,t_,f_,f_,f_,f_,f_,f_,f_,f_,f_,f_,f_]
abbrev be48_44:Array Bool:=#[t_,t_,t_,t_,f_,f_,f_,f_,f_,f_,f_,f_,f_,f_,f_]
abbrev be48_45:Array Bool:=#[t_,t_,t_,t_,t_,f_,f_,f_,f_,f_,f_,f_,f_,f_,f_]
abbrev be48_46:Array Bool:=#[t_,t_,t_,t_,t_,t_,f_,f_,f_,f_,f_,f_,f_,f_,f_]
abbrev be48_47:Array Bool:=#[t_,t_,t_,t_,t_,t_,t_,f_,f_,f_,f_,f_,f_,f_,f_]
abbrev be48_48:Array Bool:=#[t_,t_,t_,t_,t_,t_,t_,t_,f_,f_,f_,f_,f_,f_,f_]
abbrev be48_49:Array Bool:=#[t_,t_,t_,t_,t_,t_,t_,t_,t_,f_,f_,f_,f_,f_,f_]
abbrev be48_50:Array Bool:=#[t_,t_,t_,t_,t_,t_,t_,t_,t_,t_,f_,f_,f_,f_,f_]
abbrev be48_51:Array Bool:=#[t_,t_,t_,t_,t_,t_,t_,t_,t_,t_,t_,f_,f_,f_,f_]
abbrev be48_52:Array Bool:=#[t_,t_,t_,t_,t_,t_,t_,t_,t_,t_,t_,t_,f_,f_,f_]
abbrev be48_53:Array Bool:=#[t_,t_,t_,t_,t_,t_,t_,t_,t_,t_,t_,t_,t_,f_,f_]
abbrev be48_54:Array Bool:=#[t_,t_,t_,t_,t_,t_,t_,t_,t_,t_,t_,t_,t_,t_,f_]
abbrev be48_55:Array Bool:=#[t_,t_,t_,t_,t_,t_,t_,t_,t_,t_,t_,t_,t_,t_,t_]
theorem ue48_2 {p:Prop} (h:p:=by
 obtain rfl:=oi_ H;replace hz159:=cz8 BK159;go_wp2;go_ret;exact ⟨me_,mb_ HB⟩):p:=h
theorem ue48_1 {p:Prop} (h:p:=by
 exact ⟨_,(true),mq_,H',⟨by have:=HJ4.out;first|omega|exact Nat.le_refl _⟩,⟨mc_ BK159⟩,⟨mb_ HB⟩⟩):p:=h
theorem ue48_0 {p:Prop} (h:p:=by
 obtain rfl:=oi_ H;replace hz159:=cz8 BK159;go_wp2_with (first|(go_at_call 107;(with_reducible refine (spec_l1GoodVal.calls kj4 ((rd_T106 l0 a1).f3.f0) ((rd_T106 l0 a1).f3.f1) ((rd_T106 l0 a1).f3.f2) t160 _ A16.out).mono ?_);rintro e wx ⟨rfl,hb⟩;replace BK159:=mk_ BK159 hb;replace HB:=ms_ HB hb;(try clear hb))|(go_at_call 87;(with_reducible refine (spec_l1GoodSym.calls kj4 ((rd_T106 l0 a1).f2) true _ A23.out).mono ?_);rintro e w' ⟨rfl,⟨nd,rfl⟩⟩)|(go_at_call 108;(with_reducible refine (spec_l2Zero.calls ((rd_T106 l0 a1).f3.f0) ((rd_T106 l0 a1).f3.f1) ((rd_T106 l0 a1).f3.f2) t162 _ A25.out).mono ?_);rintro e wx ⟨rfl,hb⟩;replace BK159:=mk_ BK159 hb;replace HB:=ms_ HB hb;(try clear hb))|(go_at_call 87;(with_reducible refine (spec_l1GoodSym.calls kj4 ((rd_T106 l0 a1).f2) false _ A23.out).mono ?_);rintro e w' ⟨rfl,⟨nd,rfl⟩⟩));go_ret;exact ⟨me_,mb_ HB⟩):p:=h
set_option maxHeartbeats 8000000 in
set_option maxRecDepth 100000 in
theorem spec_l2GoodExpr.calls (k:Nat) (A0:Option Addr) (c0:Nat) (l0:List (S106)) (a1:Int) (r:Bool) (w:World) (hr0:Kd.C k106 w A0 l0.length l0) (hc0:l0.length≤c0) (h:spec_l2GoodExpr.f k l0 a1=some r):
  Calls Tryz.prog 89 #[.slice A0 l0.length c0,.int .i64 a1] w fun e w'=>e=.returned (.bool r)∧Below w.heap.size w w':=by
 have hu106:=Tryz.underlying106;have hu104:=Tryz.underlying104;have HR0:=a_ hr0;have HC0:=a_ hc0;clear hr0 hc0;have HB:=a_ (Below.refl w.heap.size w);have H:=h;unfold spec_l2GoodExpr.f at H
 clear h;by_cases c3:0≤a1
 case neg=>
  rw [if_neg c3] at H;cases H
 rw [if_pos c3] at H;have c3b0:=ct_ c3;clear c3;by_cases c4:a1<(l0.length:Int)
 case neg=>
  rw [if_neg c4] at H;cases H
 rw [if_pos c4] at H;have c4b0:=ct_ c4;clear c4;have HC5:=a_ H;clear H;have p158:0≤(a1:Int):=md_
 have q158:a1<(l0.length:Int):=md_
 obtain ⟨ad158,e158,hx158_0,hx158_1,hx158_2,hx158_3,hx158_4,hx158_5,hx158_6,hx158_7⟩:=at_T106 HR0.out a1 p158 q158;cases e158;replace p158:=eq_true p158;replace q158:=eq_true q158;go_enter Tryz.func89,Tryz.ntmps89;go_upto_region 2 with (first|((with_reducible refine gate_dst (N:=5) rfl ?_);refine bh_ 5 #[.int .i64 0,.int .u8 0,.string (⟨#[]⟩:ByteArray),.int .i64 0,.int .i64 0,.string (⟨#[]⟩:ByteArray),.int .i64 0,.int .i64 0] 106 HB ?_;intro gb159 hg w6 BK159 GE159 hb;replace HB:=ms_ HB hb;clear hb hg;replace hz159:=cz8 BK159));(try simp only [Act.put,ps_]);go_cut [6] (fun v6 wc=>∃(kq:Nat) (x6_4:Bool),v6=.bool x6_4∧Aside0 (spec_l2GoodExpr.j0 kq l0 a1 x6_4 ((rd_T106 l0 a1).f0) ((rd_T106 l0 a1).f1) ((rd_T106 l0 a1).f2) ((rd_T106 l0 a1).f3.f0) ((rd_T106 l0 a1).f3.f1) ((rd_T106 l0 a1).f3.f2) ((rd_T106 l0 a1).f4) ((rd_T106 l0 a1).f5)=some r)∧Aside0 (kq≤k)∧Aside0 (wc.heap[gb159]?=some (.cells #[.int .i64 ((rd_T106 l0 a1).f0),.int .u8 ((rd_T106 l0 a1).f1),.string ((rd_T106 l0 a1).f2),.int .i64 ((rd_T106 l0 a1).f3.f0),.int .i64 ((rd_T106 l0 a1).f3.f1),.string ((rd_T106 l0 a1).f3.f2),.int .i64 ((rd_T106 l0 a1).f4),.int .i64 ((rd_T106 l0 a1).f5)] 106 (0,0)))∧Aside0 (Below w.heap.size w wc))
 case first=>
  have H:=HC5.out;clear HC5;by_cases c8:((rd_T106 l0 a1).f1)=0
  ·rw [if_pos c8] at H;obtain ⟨c8b0,c8b1⟩:=bq_ c8;clear c8;(first|rw [c8b0]|(simp only [i64_w,i32_w];rw [c8b0])|skip);by_cases c9:((rd_T106 l0 a1).f4)=0
   ·rw [if_pos c9] at H;obtain ⟨c9b0,c9b1⟩:=bq_ c9;clear c9;have H':=a_ H;clear H;replace hz159:=cz8 BK159;go_wp2;go_meet
    case rel=>exact ⟨_,((((rd_T106 l0 a1).f5)==0)),mq_,H',⟨by first|omega|exact Nat.le_refl _⟩,⟨mp_ BK159⟩,⟨mb_ HB⟩⟩
   ·rw [if_neg c9] at H;obtain ⟨c9b0,c9b1⟩:=bn_ c9;have H':=a_ H;clear H;replace hz159:=cz8 BK159;go_wp2;go_meet
    case rel=>exact ⟨_,(false),mq_,H',⟨by first|omega|exact Nat.le_refl _⟩,⟨mp_ BK159⟩,⟨mb_ HB⟩⟩
  ·rw [if_neg c8] at H;obtain ⟨c8b0,c8b1⟩:=bn_ c8;(first|rw [c8b0]|(simp only [i64_w,i32_w];rw [c8b0])|skip);have H':=a_ H;clear H;replace hz159:=cz8 BK159;go_wp2;go_meet
   case rel=>exact ⟨_,(false),mq_,H',⟨by first|omega|exact Nat.le_refl _⟩,⟨mp_ BK159⟩,⟨mb_ HB⟩⟩
 clear HC5;(try clear c3b0);(try clear c4b0);(try clear hx158_0);(try clear hx158_1);(try clear hx158_2);(try clear hx158_3);(try clear hx158_4);(try clear hx158_5);(try clear hx158_6);(try clear hx158_7);(try clear p158);(try clear q158);obtain ⟨kq,x6_4,rfl,HA,HJ4,BK159,HB⟩:=hcut;obtain _|kj4:=kq
 ·exact absurd HA.out (by simp [spec_l2GoodExpr.j0])
 have H:=HA.out;clear HA;simp only [spec_l2GoodExpr.j0] at H;by_cases c13:((rd_T106 l0 a1).f0)=0
 ·rw [if_pos c13] at H;obtain ⟨c13b0,c13b1⟩:=bq_ c13;clear c13;by_cases c14:x6_4=true
  ·subst c14;rw [if_pos rfl] at H;by_cases c15:((rd_T106 l0 a1).f2).toList=([]:List UInt8)
   ·rw [if_pos c15] at H;obtain ⟨c15b0,c15b1⟩:=bq_ c15;clear c15;obtain ⟨t160,A16,H⟩:=ob_ H;exact ue48_0
   ·rw [if_neg c15] at H;obtain ⟨c15b0,c15b1⟩:=bn_ c15;exact ue48_2
  ·replace c14:=Bool.eq_false_iff.mpr c14;subst c14;rw [if_neg (show ¬(false=true) by decide)] at H;exact ue48_2
 ·rw [if_neg c13] at H;obtain ⟨c13b0,c13b1⟩:=bn_ c13;by_cases c21:((rd_T106 l0 a1).f0)=1
  ·rw [if_pos c21] at H;obtain ⟨c21b0,c21b1⟩:=bq_ c21;clear c21;by_cases c22:x6_4=true
   ·subst c22;rw [if_pos rfl] at H;obtain ⟨t161,A23,H⟩:=ob_ H;by_cases c24:t161=true
    ·subst c24;rw [if_pos rfl] at H;obtain ⟨t162,A25,H⟩:=ob_ H;exact ue48_0
    ·replace c24:=Bool.eq_false_iff.mpr c24;subst c24;rw [if_neg (show ¬(false=true) by decide)] at H;exact ue48_0
   ·replace c22:=Bool.eq_false_iff.mpr c22;subst c22;rw [if_neg (show ¬(false=true) by decide)] at H;exact ue48_2
  ·rw [if_neg c21] at H;obtain ⟨c21b0,c21b1⟩:=bn_ c21;by_cases c30:((rd_T106 l0 a1).f0)=2
   ·rw [if_pos c30] at H;obtain ⟨c30b0,c30b1⟩:=bq_ c30;clear c30;have HC31:=a_ H;clear H;replace hz159:=cz8 BK159;go_upto_region 9 with (fail);go_cut [88] (fun v88 wc=>∃(kq:Nat) (x88_30:Bool),v88=.bool x88_30∧Aside0 (spec_l2GoodExpr.j1 kq l0 a1 x88_30 ((rd_T106 l0 a1).f0) ((rd_T106 l0 a1).f1) ((rd_T106 l0 a1).f2) ((rd_T106 l0 a1).f3.f0) ((rd_T106 l0 a1).f3.f1) ((rd_T106 l0 a1).f3.f2) ((rd_T106 l0 a1).f4) ((rd_T106 l0 a1).f5)=some r)∧Aside0 (kq≤kj4)∧Aside0 (wc.heap[gb159]?=some (.cells #[.int .i64 ((rd_T106 l0 a1).f0),.int .u8 ((rd_T106 l0 a1).f1),.string ((rd_T106 l0 a1).f2),.int .i64 ((rd_T106 l0 a1).f3.f0),.int .i64 ((rd_T106 l0 a1).f3.f1),.string ((rd_T106 l0 a1).f3.f2),.int .i64 ((rd_T106 l0 a1).f4),.int .i64 ((rd_T106 l0 a1).f5)] 106 (0,0)))∧Aside0 (Below w.heap.size w wc))
    case first=>
     have H:=HC31.out;clear HC31;obtain ⟨y163,hy163⟩:∃y_:List Int,y_=(([((rd_T106 l0 a1).f1)]:List Int)):=⟨_,rfl⟩;rw [←hy163] at H;(try rw [Option.bind_some] at H);have Ny163:=a_ hy163;clear hy163;obtain ⟨t166,A33,H⟩:=ob_ H;obtain ⟨t169,A34,H⟩:=ob_ H;have HD:=a_ H;clear H;try go_wp2
     replace BK159:=a_ (blk_drew BK159.out);replace HB:=a_ (below_drew1 HB.out);refine start_ (n:=35) (S:=fun w'=>w'.cell? ⟨gb159,0,none⟩=some (.int .i64 ((rd_T106 l0 a1).f0))∧w'.cell? ⟨gb159,1,none⟩=some (.int .u8 ((rd_T106 l0 a1).f1))∧w'.cell? ⟨gb159,2,none⟩=some (.string ((rd_T106 l0 a1).f2))∧w'.cell? ⟨gb159,3,none⟩=some (.int .i64 ((rd_T106 l0 a1).f3.f0))∧w'.cell? ⟨gb159,4,none⟩=some (.int .i64 ((rd_T106 l0 a1).f3.f1))∧w'.cell? ⟨gb159,5,none⟩=some (.string ((rd_T106 l0 a1).f3.f2))∧w'.cell? ⟨gb159,6,none⟩=some (.int .i64 ((rd_T106 l0 a1).f4))∧w'.cell? ⟨gb159,7,none⟩=some (.int .i64 ((rd_T106 l0 a1).f5))) (ds:=[]) be48_0 (by kernel_rfl) rfl rfl ⟨bk_ BK159 0,bk_ BK159 1,bk_ BK159 2,bk_ BK159 3,bk_ BK159 4,bk_ BK159 5,bk_ BK159 6,bk_ BK159 7⟩ (fun hHeld=>?_);refine with_tabW spec_l2GoodExpr.tab9 spec_l2GoodExpr.bits9 (fun HT_ HW_=>?_);generalize wc.drew=wq0 at BK159 HB hHeld ⊢;refine pu_ 0 54 be48_1 (any_of HT_.out (by kernel_rfl)) ?_;refine tk_ 1 55 be48_2 (take_ofW HT_.out HW_.out (by kernel_rfl)) hHeld ?_;refine join_ (σ:=Value×Value) 30 be48_3 (fun s_=>[(56,s_.1),(57,.string (strOfNums y163)),(58,s_.2)]) (fun s_ w'=>(w'.cell? ⟨gb159,0,none⟩=some (.int .i64 ((rd_T106 l0 a1).f0))∧w'.cell? ⟨gb159,1,none⟩=some (.int .u8 ((rd_T106 l0 a1).f1))∧w'.cell? ⟨gb159,2,none⟩=some (.string ((rd_T106 l0 a1).f2))∧w'.cell? ⟨gb159,3,none⟩=some (.int .i64 ((rd_T106 l0 a1).f3.f0))∧w'.cell? ⟨gb159,4,none⟩=some (.int .i64 ((rd_T106 l0 a1).f3.f1))∧w'.cell? ⟨gb159,5,none⟩=some (.string ((rd_T106 l0 a1).f3.f2))∧w'.cell? ⟨gb159,6,none⟩=some (.int .i64 ((rd_T106 l0 a1).f4))∧w'.cell? ⟨gb159,7,none⟩=some (.int .i64 ((rd_T106 l0 a1).f5)))∧(Kd.R (Kd.int .u8) 5 w' w.heap.size (fun _=>True) s_.1 y163)∧(Kd.R Kd.string 9 w' w.heap.size (fun _=>True) s_.2 t166)∧(w'.heap[gb159]?=some (.cells #[.int .i64 ((rd_T106 l0 a1).f0),.int .u8 ((rd_T106 l0 a1).f1),.string ((rd_T106 l0 a1).f2),.int .i64 ((rd_T106 l0 a1).f3.f0),.int .i64 ((rd_T106 l0 a1).f3.f1),.string ((rd_T106 l0 a1).f3.f2),.int .i64 ((rd_T106 l0 a1).f4),.int .i64 ((rd_T106 l0 a1).f5)] 106 (0,0)))∧(Below w.heap.size w w')) ?_ ?_
     rotate_left
     ·intro hCont;refine two_ (i:=2) (j:=4) (Ni:=some 56) (Nj:=some 58) be48_4 be48_5 rfl rfl rfl rfl (two_of HT_.out (by kernel_rfl)) (by decide) (by decide) (fun K hK=>?_) (fun K hK=>?_)
      ·skip;refine Kd.R_lit_step (Kd.int .u8) _ 5 ?hg (N:=56) ?hd (xs:=([((rd_T106 l0 a1).f1)]:List Int)) (inner:=[.int .u8 ((rd_T106 l0 a1).f1)]) (ok:=fun _=>True) (okp:=fun _=>True) ?hr ?hp (fun _ hk=>hk) trivial (Below.refl _ _) (Nat.le_refl _) (by simp) ?_;(case hd=>rfl);(case hg=>rfl);(case hr=>first|(go_simp;done)|(go_simp;rfl));(case hp=>exact (Reps.one (show Kd.M (Kd.int .u8) _ _ _ ((rd_T106 l0 a1).f1) [.int .u8 ((rd_T106 l0 a1).f1)] from rfl) (Reps.none _ _)));intro v164 wq1 hoq2 hb hg_ hnew_;clear hg_ hnew_;(first|rw [←Ny163.out] at hoq2|(simp only [Int.reduceToNat] at hoq2;rw [←Ny163.out] at hoq2));have HO165:=a_ (Kd.R_lower hoq2 (below_size (mb_ HB)));replace BK159:=mk_ BK159 hb;replace HB:=ms_ HB hb;clear hb hoq2;refine hK.out _ _ (bc8 BK159) fun hHeld=>?_
       clear hK K;refine nm_ 56 ?_;refine two_ (i:=3) (j:=4) (Ni:=some 57) (Nj:=some 58) be48_6 be48_7 rfl rfl rfl rfl (two_of HT_.out (by kernel_rfl)) (by decide) (by decide) (fun K hK=>?_) (fun K hK=>?_)
       ·skip;have hcvq3:=own_string (P:=Tryz.prog) Tryz.underlying98 Tryz.underlying5 Tryz.underlying9 (Kd.own_of_R HO165.out);refine value_ (w1:=?_) (v:=?_) (by rfl) rfl ?_ ?_;rotate_left 2
        ·go_simp;constructor
         ·rfl
         ·rfl
        clear hcvq3;refine hK.out _ _ (bc8 BK159) fun hHeld=>?_
        clear hK K;refine nm_ 57 ?_;refine one_ (i:=4) (N:=some 58) be48_3 rfl rfl (one_of HT_.out (by kernel_rfl)) (by decide) (fun K hK=>?_);refine goes_ Tryz.func109 (by kernel_rfl) rfl #[] (by rfl) rfl rfl mw_ ?_;with_reducible refine (spec_l2Ariths.calls  t166 _ A33.out).mono ?_
        rintro e wq4 ⟨v167,rfl,ho0,hb⟩;refine ⟨_,rfl,?_⟩;have HO168:=a_ (Kd.R_lower ho0 (below_size (mb_ HB)));replace HO165:=ro_ HO165 hb;replace BK159:=mk_ BK159 hb;replace HB:=ms_ HB hb;(try clear hb);(try clear hb2);(try clear hk);(try clear hi);(try clear ho0);refine hK.out _ _ (bc8 BK159) fun hHeld=>?_
        clear hK K;refine nm_ 58 ?_;exact norm_ (by simp only [putAll,Act.put,ps_]) (hCont (v164,v167) _ ⟨hHeld,(mo_ HO165.out),(mo_ HO168.out),(mc_ BK159),(mb_ HB)⟩)
       ·skip;refine goes_ Tryz.func109 (by kernel_rfl) rfl #[] (by rfl) rfl rfl mw_ ?_;with_reducible refine (spec_l2Ariths.calls  t166 _ A33.out).mono ?_
        rintro e wq5 ⟨v167,rfl,ho0,hb⟩;refine ⟨_,rfl,?_⟩;have HO168:=a_ (Kd.R_lower ho0 (below_size (mb_ HB)));replace HO165:=ro_ HO165 hb;replace BK159:=mk_ BK159 hb;replace HB:=ms_ HB hb;(try clear hb);(try clear hb2);(try clear hk);(try clear hi);(try clear ho0);refine hK.out _ _ (bc8 BK159) fun hHeld=>?_
        clear hK K;refine nm_ 58 ?_;refine one_ (i:=3) (N:=some 57) be48_3 rfl rfl (one_of HT_.out (by kernel_rfl)) (by decide) (fun K hK=>?_);have hcvq6:=own_string (P:=Tryz.prog) Tryz.underlying98 Tryz.underlying5 Tryz.underlying9 (Kd.own_of_R HO165.out);refine value_ (w1:=?_) (v:=?_) (by rfl) rfl ?_ ?_;rotate_left 2
        ·go_simp;constructor
         ·rfl
         ·rfl
        clear hcvq6;refine hK.out _ _ (bc8 BK159) fun hHeld=>?_
        clear hK K;refine nm_ 57 ?_;exact norm_ (by simp only [putAll,Act.put,ps_]) (hCont (v164,v167) _ ⟨hHeld,(mo_ HO165.out),(mo_ HO168.out),(mc_ BK159),(mb_ HB)⟩)
      ·skip;refine goes_ Tryz.func109 (by kernel_rfl) rfl #[] (by rfl) rfl rfl mw_ ?_;with_reducible refine (spec_l2Ariths.calls  t166 _ A33.out).mono ?_
       rintro e wq1 ⟨v167,rfl,ho0,hb⟩;refine ⟨_,rfl,?_⟩;have HO168:=a_ (Kd.R_lower ho0 (below_size (mb_ HB)));replace BK159:=mk_ BK159 hb;replace HB:=ms_ HB hb;(try clear hb);(try clear hb2);(try clear hk);(try clear hi);(try clear ho0);refine hK.out _ _ (bc8 BK159) fun hHeld=>?_
       clear hK K;refine nm_ 58 ?_;refine one_ (i:=2) (N:=some 56) be48_7 rfl rfl (one_of HT_.out (by kernel_rfl)) (by decide) (fun K hK=>?_);refine Kd.R_lit_step (Kd.int .u8) _ 5 ?hg (N:=56) ?hd (xs:=([((rd_T106 l0 a1).f1)]:List Int)) (inner:=[.int .u8 ((rd_T106 l0 a1).f1)]) (ok:=fun _=>True) (okp:=fun _=>True) ?hr ?hp (fun _ hk=>hk) trivial (Below.refl _ _) (Nat.le_refl _) (by simp) ?_;(case hd=>rfl);(case hg=>rfl);(case hr=>first|(go_simp;done)|(go_simp;rfl));(case hp=>exact (Reps.one (show Kd.M (Kd.int .u8) _ _ _ ((rd_T106 l0 a1).f1) [.int .u8 ((rd_T106 l0 a1).f1)] from rfl) (Reps.none _ _)));intro v164 wq7 hoq8 hb hg_ hnew_;clear hg_ hnew_;(first|rw [←Ny163.out] at hoq8|(simp only [Int.reduceToNat] at hoq8;rw [←Ny163.out] at hoq8));have HO165:=a_ (Kd.R_lower hoq8 (below_size (mb_ HB)));replace HO168:=ro_ HO168 hb;replace BK159:=mk_ BK159 hb;replace HB:=ms_ HB hb;clear hb hoq8;refine hK.out _ _ (bc8 BK159) fun hHeld=>?_
       clear hK K;refine nm_ 56 ?_;refine one_ (i:=3) (N:=some 57) be48_3 rfl rfl (one_of HT_.out (by kernel_rfl)) (by decide) (fun K hK=>?_);have hcvq6:=own_string (P:=Tryz.prog) Tryz.underlying98 Tryz.underlying5 Tryz.underlying9 (Kd.own_of_R HO165.out);refine value_ (w1:=?_) (v:=?_) (by rfl) rfl ?_ ?_;rotate_left 2
       ·go_simp;constructor
        ·rfl
        ·rfl
       clear hcvq6;refine hK.out _ _ (bc8 BK159) fun hHeld=>?_
       clear hK K;refine nm_ 57 ?_;exact norm_ (by simp only [putAll,Act.put,ps_]) (hCont (v164,v167) _ ⟨hHeld,(mo_ HO165.out),(mo_ HO168.out),(mc_ BK159),(mb_ HB)⟩)
     rintro ⟨v164,v167⟩ wq9 ⟨hS_,h0_,h1_,h2_,h3_⟩;have n0_:Aside0 (Kd.R (Kd.int .u8) 5 wq9 w.heap.size (fun _=>True) v164 y163):=⟨h0_⟩
     have n1_:Aside0 (Kd.R Kd.string 9 wq9 w.heap.size (fun _=>True) v167 t166):=⟨h1_⟩
     have n2_:Aside0 (wq9.heap[gb159]?=some (.cells #[.int .i64 ((rd_T106 l0 a1).f0),.int .u8 ((rd_T106 l0 a1).f1),.string ((rd_T106 l0 a1).f2),.int .i64 ((rd_T106 l0 a1).f3.f0),.int .i64 ((rd_T106 l0 a1).f3.f1),.string ((rd_T106 l0 a1).f3.f2),.int .i64 ((rd_T106 l0 a1).f4),.int .i64 ((rd_T106 l0 a1).f5)] 106 (0,0))):=⟨h2_⟩
     have n3_:Aside0 (Below w.heap.size w wq9):=⟨h3_⟩
     clear BK159;clear HB;clear h0_ h1_ h2_ h3_;have HO165:=n0_;have HO168:=n1_;have BK159:=n2_;have HB:=n3_;clear n0_ n1_ n2_ n3_;have hHeld:wq9.cell? ⟨gb159,0,none⟩=some (.int .i64 ((rd_T106 l0 a1).f0))∧wq9.cell? ⟨gb159,1,none⟩=some (.int .u8 ((rd_T106 l0 a1).f1))∧wq9.cell? ⟨gb159,2,none⟩=some (.string ((rd_T106 l0 a1).f2))∧wq9.cell? ⟨gb159,3,none⟩=some (.int .i64 ((rd_T106 l0 a1).f3.f0))∧wq9.cell? ⟨gb159,4,none⟩=some (.int .i64 ((rd_T106 l0 a1).f3.f1))∧wq9.cell? ⟨gb159,5,none⟩=some (.string ((rd_T106 l0 a1).f3.f2))∧wq9.cell? ⟨gb159,6,none⟩=some (.int .i64 ((rd_T106 l0 a1).f4))∧wq9.cell? ⟨gb159,7,none⟩=some (.int .i64 ((rd_T106 l0 a1).f5)):=hS_
     obtain ⟨Aoq10,coq11,eoq12⟩:=Kd.R_slice HO168.out;(first|subst eoq12|(injection eoq12 with f1_ f2_ f3_;have f4_:=f1_.symm;have f5_:=f3_.symm;clear f1_ f2_ f3_;subst f4_;subst f5_));refine norm_ (a':=?_) ?_ ?_;rotate_left
     ·simp only [putAll,Act.put,ps_];rfl
     have H:=HD.out;clear HD;by_cases c35:t169=true
     ·subst c35;rw [if_pos rfl] at H;by_cases c36:((rd_T106 l0 a1).f2).toList=([]:List UInt8)
      ·rw [if_pos c36] at H;obtain ⟨c36b0,c36b1⟩:=bq_ c36;clear c36;(first|rw [c36b0]|(simp only [i64_w,i32_w];rw [c36b0])|skip);obtain ⟨t170,A37,H⟩:=ob_ H;by_cases c38:t170=true
       ·subst c38;rw [if_pos rfl] at H;by_cases c39:((rd_T106 l0 a1).f5)=(wrap64 (a1-1))
        ·rw [if_pos c39] at H;obtain ⟨c39b0,c39b1⟩:=bq_ c39;clear c39;have HD:=a_ H;clear H;(try simp only [c36b0,c36b1,c39b0,c39b1,c40b0]);refine one_ (i:=5) (N:=some 59) be48_8 rfl rfl (one_of HT_.out (by kernel_rfl)) (by decide) (fun K hK=>?_);refine goes_ Tryz.func91 (by kernel_rfl) rfl #[.string (strOfNums y163),.slice Aoq10 t166.length coq11] (by rfl) rfl rfl mw_ ?_;with_reducible refine (spec_l2Is.calls kj4 (strOfNums y163) _ _ t166 true _ ?side1 ?side2 A34.out).mono ?_
         (case side1=>repeat (first|exact (Kd.R_reads' HO168.out).2.2|(with_reducible refine Kd.C_alloc ?_ _)|(with_reducible refine Kd.C_drewN ?_ _)|(with_reducible refine Kd.C_drew ?_)))
         (case side2=>exact (Kd.R_reads' HO168.out).2.1)
         rintro e w' ⟨rfl,⟨nd,rfl⟩⟩;refine ⟨_,rfl,?_⟩;refine hK.out _ _ (bc8 BK159) fun hHeld=>?_
         clear hK K;refine nm_ 59 ?_;refine pu_ 6 60 be48_9 (any_of HT_.out (by kernel_rfl)) ?_;refine pu_ 7 61 be48_10 (any_of HT_.out (by kernel_rfl)) ?_;refine pu_ 8 62 be48_11 (any_of HT_.out (by kernel_rfl)) ?_;refine tk_ 9 63 be48_12 (take_ofW HT_.out HW_.out (by kernel_rfl)) hHeld ?_;refine pu_ 10 64 be48_13 (any_of HT_.out (by kernel_rfl)) ?_;refine pu_ 11 65 be48_14 (any_of HT_.out (by kernel_rfl)) ?_;refine pu_ 12 66 be48_15 (any_of HT_.out (by kernel_rfl)) ?_;refine pu_ 13 67 be48_16 (any_of HT_.out (by kernel_rfl)) ?_;refine tk_ 14 68 be48_17 (take_ofW HT_.out HW_.out (by kernel_rfl)) hHeld ?_;refine one_ (i:=15) (N:=some 69) be48_18 rfl rfl (one_of HT_.out (by kernel_rfl)) (by decide) (fun K hK=>?_)
         refine goes_ Tryz.func108 (by kernel_rfl) rfl #[.agg #[.int .i64 ((rd_T106 l0 a1).f3.f0),.int .i64 ((rd_T106 l0 a1).f3.f1),.string ((rd_T106 l0 a1).f3.f2)]] (by rfl) rfl rfl mw_ ?_;with_reducible refine (spec_l2Zero.calls ((rd_T106 l0 a1).f3.f0) ((rd_T106 l0 a1).f3.f1) ((rd_T106 l0 a1).f3.f2) true _ A37.out).mono ?_
         rintro e wq13 ⟨rfl,hb⟩;refine ⟨_,rfl,?_⟩;replace HO165:=ro_ HO165 hb;replace HO168:=ro_ HO168 hb;replace BK159:=mk_ BK159 hb;replace HB:=ms_ HB hb;(try clear hb);(try clear hb2);(try clear hk);(try clear hi);refine hK.out _ _ (bc8 BK159) fun hHeld=>?_
         clear hK K;refine nm_ 69 ?_;refine pu_ 16 70 be48_19 (any_of HT_.out (by kernel_rfl)) ?_;refine pu_ 17 71 be48_20 (any_of HT_.out (by kernel_rfl)) ?_;refine pu_ 18 72 be48_21 (any_of HT_.out (by kernel_rfl)) ?_;refine pu_ 19 73 be48_22 (any_of HT_.out (by kernel_rfl)) ?_;refine pu_ 21 75 be48_23 (any_of HT_.out (by kernel_rfl)) ?_;refine pu_ 22 76 be48_24 (any_of HT_.out (by kernel_rfl)) ?_;refine tk_ 20 74 be48_25 (take_ofW HT_.out HW_.out (by kernel_rfl)) hHeld ?_;refine pu_ 23 77 be48_26 (any_of HT_.out (by kernel_rfl)) ?_;refine pu_ 24 78 be48_27 (any_of HT_.out (by kernel_rfl)) ?_;refine pu_ 25 79 be48_28 (any_of HT_.out (by kernel_rfl)) ?_;refine pu_ 26 80 be48_29 (any_of HT_.out (by kernel_rfl)) ?_
         refine tk_ 27 81 be48_30 (take_ofW HT_.out HW_.out (by kernel_rfl)) hHeld ?_;refine pu_ 28 82 be48_31 (any_of HT_.out (by kernel_rfl)) ?_;refine pu_ 29 83 be48_32 (any_of HT_.out (by kernel_rfl)) ?_;refine pu_ 30 84 be48_33 (any_of HT_.out (by kernel_rfl)) ?_;have H:=HD.out;clear HD;by_cases c40:((rd_T106 l0 a1).f5)<0
         ·rw [if_pos c40] at H;have c40b0:=ct_ c40;clear c40;have H':=a_ H;clear H;(try simp only [c40b0]);refine pv_ 31 85 be48_34 (any_of HT_.out (by kernel_rfl)) ?_;refine pv_ 32 86 be48_35 (any_of HT_.out (by kernel_rfl)) ?_;refine pv_ 33 87 be48_36 (any_of HT_.out (by kernel_rfl)) ?_;refine pu_ 34 88 be48_37 (any_of HT_.out (by kernel_rfl)) ?_;refine done_ (done_of HT_.out (by kernel_rfl)) ?_;try go_wp2
          go_meet
          case rel=>exact ue48_1
         ·rw [if_neg c40] at H;have c40b0:=cf_ c40;clear c40;have H':=a_ H;clear H;(try simp only [c40b0]);refine pu_ 31 85 be48_34 (any_of HT_.out (by kernel_rfl)) ?_;refine tk_ 32 86 be48_35 (take_ofW HT_.out HW_.out (by kernel_rfl)) hHeld ?_;refine pu_ 33 87 be48_36 (any_of HT_.out (by kernel_rfl)) ?_;refine pu_ 34 88 be48_37 (any_of HT_.out (by kernel_rfl)) ?_;refine done_ (done_of HT_.out (by kernel_rfl)) ?_;try go_wp2
          go_meet
          case rel=>exact ⟨_,(decide (((rd_T106 l0 a1).f4)<0)),mq_,H',⟨by have:=HJ4.out;first|omega|exact Nat.le_refl _⟩,⟨mc_ BK159⟩,⟨mb_ HB⟩⟩
        ·rw [if_neg c39] at H;obtain ⟨c39b0,c39b1⟩:=bn_ c39;have H':=a_ H;clear H;(try simp only [c36b0,c36b1,c39b0,c39b1]);refine one_ (i:=5) (N:=some 59) be48_8 rfl rfl (one_of HT_.out (by kernel_rfl)) (by decide) (fun K hK=>?_);refine goes_ Tryz.func91 (by kernel_rfl) rfl #[.string (strOfNums y163),.slice Aoq10 t166.length coq11] (by rfl) rfl rfl mw_ ?_;with_reducible refine (spec_l2Is.calls kj4 (strOfNums y163) _ _ t166 true _ ?side1 ?side2 A34.out).mono ?_
         (case side1=>repeat (first|exact (Kd.R_reads' HO168.out).2.2|(with_reducible refine Kd.C_alloc ?_ _)|(with_reducible refine Kd.C_drewN ?_ _)|(with_reducible refine Kd.C_drew ?_)))
         (case side2=>exact (Kd.R_reads' HO168.out).2.1)
         rintro e w' ⟨rfl,⟨nd,rfl⟩⟩;refine ⟨_,rfl,?_⟩;refine hK.out _ _ (bc8 BK159) fun hHeld=>?_
         clear hK K;refine nm_ 59 ?_;refine pu_ 6 60 be48_9 (any_of HT_.out (by kernel_rfl)) ?_;refine pu_ 7 61 be48_10 (any_of HT_.out (by kernel_rfl)) ?_;refine pu_ 8 62 be48_11 (any_of HT_.out (by kernel_rfl)) ?_;refine tk_ 9 63 be48_12 (take_ofW HT_.out HW_.out (by kernel_rfl)) hHeld ?_;refine pu_ 10 64 be48_13 (any_of HT_.out (by kernel_rfl)) ?_;refine pu_ 11 65 be48_14 (any_of HT_.out (by kernel_rfl)) ?_;refine pu_ 12 66 be48_15 (any_of HT_.out (by kernel_rfl)) ?_;refine pu_ 13 67 be48_16 (any_of HT_.out (by kernel_rfl)) ?_;refine tk_ 14 68 be48_17 (take_ofW HT_.out HW_.out (by kernel_rfl)) hHeld ?_;refine one_ (i:=15) (N:=some 69) be48_18 rfl rfl (one_of HT_.out (by kernel_rfl)) (by decide) (fun K hK=>?_)
         refine goes_ Tryz.func108 (by kernel_rfl) rfl #[.agg #[.int .i64 ((rd_T106 l0 a1).f3.f0),.int .i64 ((rd_T106 l0 a1).f3.f1),.string ((rd_T106 l0 a1).f3.f2)]] (by rfl) rfl rfl mw_ ?_;with_reducible refine (spec_l2Zero.calls ((rd_T106 l0 a1).f3.f0) ((rd_T106 l0 a1).f3.f1) ((rd_T106 l0 a1).f3.f2) true _ A37.out).mono ?_
         rintro e wq13 ⟨rfl,hb⟩;refine ⟨_,rfl,?_⟩;replace HO165:=ro_ HO165 hb;replace HO168:=ro_ HO168 hb;replace BK159:=mk_ BK159 hb;replace HB:=ms_ HB hb;(try clear hb);(try clear hb2);(try clear hk);(try clear hi);refine hK.out _ _ (bc8 BK159) fun hHeld=>?_
         clear hK K;refine nm_ 69 ?_;refine pu_ 16 70 be48_19 (any_of HT_.out (by kernel_rfl)) ?_;refine pu_ 17 71 be48_20 (any_of HT_.out (by kernel_rfl)) ?_;refine pu_ 18 72 be48_21 (any_of HT_.out (by kernel_rfl)) ?_;refine pu_ 19 73 be48_22 (any_of HT_.out (by kernel_rfl)) ?_;refine pu_ 21 75 be48_23 (any_of HT_.out (by kernel_rfl)) ?_;refine pu_ 22 76 be48_24 (any_of HT_.out (by kernel_rfl)) ?_;refine tk_ 20 74 be48_25 (take_ofW HT_.out HW_.out (by kernel_rfl)) hHeld ?_;refine pu_ 23 77 be48_26 (any_of HT_.out (by kernel_rfl)) ?_;refine pu_ 24 78 be48_27 (any_of HT_.out (by kernel_rfl)) ?_;refine pu_ 25 79 be48_28 (any_of HT_.out (by kernel_rfl)) ?_;refine pv_ 26 80 be48_29 (any_of HT_.out (by kernel_rfl)) ?_
         refine pv_ 27 81 be48_30 (any_of HT_.out (by kernel_rfl)) ?_;refine pv_ 28 82 be48_31 (any_of HT_.out (by kernel_rfl)) ?_;refine pu_ 29 83 be48_32 (any_of HT_.out (by kernel_rfl)) ?_;refine pu_ 30 84 be48_33 (any_of HT_.out (by kernel_rfl)) ?_;refine pv_ 31 85 be48_34 (any_of HT_.out (by kernel_rfl)) ?_;refine pv_ 32 86 be48_35 (any_of HT_.out (by kernel_rfl)) ?_;refine pv_ 33 87 be48_36 (any_of HT_.out (by kernel_rfl)) ?_;refine pu_ 34 88 be48_37 (any_of HT_.out (by kernel_rfl)) ?_;refine done_ (done_of HT_.out (by kernel_rfl)) ?_;try go_wp2
         go_meet
         case rel=>exact ue48_1
       ·replace c38:=Bool.eq_false_iff.mpr c38;subst c38;rw [if_neg (show ¬(false=true) by decide)] at H;have H':=a_ H;clear H;(try simp only [c36b0,c36b1]);refine one_ (i:=5) (N:=some 59) be48_8 rfl rfl (one_of HT_.out (by kernel_rfl)) (by decide) (fun K hK=>?_);refine goes_ Tryz.func91 (by kernel_rfl) rfl #[.string (strOfNums y163),.slice Aoq10 t166.length coq11] (by rfl) rfl rfl mw_ ?_;with_reducible refine (spec_l2Is.calls kj4 (strOfNums y163) _ _ t166 true _ ?side1 ?side2 A34.out).mono ?_
        (case side1=>repeat (first|exact (Kd.R_reads' HO168.out).2.2|(with_reducible refine Kd.C_alloc ?_ _)|(with_reducible refine Kd.C_drewN ?_ _)|(with_reducible refine Kd.C_drew ?_)))
        (case side2=>exact (Kd.R_reads' HO168.out).2.1)
        rintro e w' ⟨rfl,⟨nd,rfl⟩⟩;refine ⟨_,rfl,?_⟩;refine hK.out _ _ (bc8 BK159) fun hHeld=>?_
        clear hK K;refine nm_ 59 ?_;refine pu_ 6 60 be48_9 (any_of HT_.out (by kernel_rfl)) ?_;refine pu_ 7 61 be48_10 (any_of HT_.out (by kernel_rfl)) ?_;refine pu_ 8 62 be48_11 (any_of HT_.out (by kernel_rfl)) ?_;refine tk_ 9 63 be48_12 (take_ofW HT_.out HW_.out (by kernel_rfl)) hHeld ?_;refine pu_ 10 64 be48_13 (any_of HT_.out (by kernel_rfl)) ?_;refine pu_ 11 65 be48_14 (any_of HT_.out (by kernel_rfl)) ?_;refine pu_ 12 66 be48_15 (any_of HT_.out (by kernel_rfl)) ?_;refine pu_ 13 67 be48_16 (any_of HT_.out (by kernel_rfl)) ?_;refine tk_ 14 68 be48_17 (take_ofW HT_.out HW_.out (by kernel_rfl)) hHeld ?_;refine one_ (i:=15) (N:=some 69) be48_18 rfl rfl (one_of HT_.out (by kernel_rfl)) (by decide) (fun K hK=>?_)
        refine goes_ Tryz.func108 (by kernel_rfl) rfl #[.agg #[.int .i64 ((rd_T106 l0 a1).f3.f0),.int .i64 ((rd_T106 l0 a1).f3.f1),.string ((rd_T106 l0 a1).f3.f2)]] (by rfl) rfl rfl mw_ ?_;with_reducible refine (spec_l2Zero.calls ((rd_T106 l0 a1).f3.f0) ((rd_T106 l0 a1).f3.f1) ((rd_T106 l0 a1).f3.f2) false _ A37.out).mono ?_
        rintro e wq13 ⟨rfl,hb⟩;refine ⟨_,rfl,?_⟩;replace HO165:=ro_ HO165 hb;replace HO168:=ro_ HO168 hb;replace BK159:=mk_ BK159 hb;replace HB:=ms_ HB hb;(try clear hb);(try clear hb2);(try clear hk);(try clear hi);refine hK.out _ _ (bc8 BK159) fun hHeld=>?_
        clear hK K;refine nm_ 69 ?_;refine pu_ 16 70 be48_19 (any_of HT_.out (by kernel_rfl)) ?_;refine pu_ 17 71 be48_20 (any_of HT_.out (by kernel_rfl)) ?_;refine pu_ 18 72 be48_21 (any_of HT_.out (by kernel_rfl)) ?_;refine pv_ 19 73 be48_22 (any_of HT_.out (by kernel_rfl)) ?_;refine pv_ 20 74 be48_38 (any_of HT_.out (by kernel_rfl)) ?_;refine pv_ 21 75 be48_39 (any_of HT_.out (by kernel_rfl)) ?_;refine pv_ 22 76 be48_25 (any_of HT_.out (by kernel_rfl)) ?_;refine pv_ 23 77 be48_26 (any_of HT_.out (by kernel_rfl)) ?_;refine pu_ 24 78 be48_27 (any_of HT_.out (by kernel_rfl)) ?_;refine pu_ 25 79 be48_28 (any_of HT_.out (by kernel_rfl)) ?_;refine pv_ 26 80 be48_29 (any_of HT_.out (by kernel_rfl)) ?_
        refine pv_ 27 81 be48_30 (any_of HT_.out (by kernel_rfl)) ?_;refine pv_ 28 82 be48_31 (any_of HT_.out (by kernel_rfl)) ?_;refine pu_ 29 83 be48_32 (any_of HT_.out (by kernel_rfl)) ?_;refine pu_ 30 84 be48_33 (any_of HT_.out (by kernel_rfl)) ?_;refine pv_ 31 85 be48_34 (any_of HT_.out (by kernel_rfl)) ?_;refine pv_ 32 86 be48_35 (any_of HT_.out (by kernel_rfl)) ?_;refine pv_ 33 87 be48_36 (any_of HT_.out (by kernel_rfl)) ?_;refine pu_ 34 88 be48_37 (any_of HT_.out (by kernel_rfl)) ?_;refine done_ (done_of HT_.out (by kernel_rfl)) ?_;try go_wp2
        go_meet
        case rel=>exact ue48_1
      ·rw [if_neg c36] at H;obtain ⟨c36b0,c36b1⟩:=bn_ c36;(first|rw [c36b0]|(simp only [i64_w,i32_w];rw [c36b0])|skip);have H':=a_ H;clear H;(try simp only [c36b0,c36b1]);refine one_ (i:=5) (N:=some 59) be48_8 rfl rfl (one_of HT_.out (by kernel_rfl)) (by decide) (fun K hK=>?_);refine goes_ Tryz.func91 (by kernel_rfl) rfl #[.string (strOfNums y163),.slice Aoq10 t166.length coq11] (by rfl) rfl rfl mw_ ?_;with_reducible refine (spec_l2Is.calls kj4 (strOfNums y163) _ _ t166 true _ ?side1 ?side2 A34.out).mono ?_
       (case side1=>repeat (first|exact (Kd.R_reads' HO168.out).2.2|(with_reducible refine Kd.C_alloc ?_ _)|(with_reducible refine Kd.C_drewN ?_ _)|(with_reducible refine Kd.C_drew ?_)))
       (case side2=>exact (Kd.R_reads' HO168.out).2.1)
       rintro e w' ⟨rfl,⟨nd,rfl⟩⟩;refine ⟨_,rfl,?_⟩;refine hK.out _ _ (bc8 BK159) fun hHeld=>?_
       clear hK K;refine nm_ 59 ?_;refine pu_ 6 60 be48_9 (any_of HT_.out (by kernel_rfl)) ?_;refine pu_ 7 61 be48_10 (any_of HT_.out (by kernel_rfl)) ?_;refine pu_ 8 62 be48_11 (any_of HT_.out (by kernel_rfl)) ?_;refine tk_ 9 63 be48_12 (take_ofW HT_.out HW_.out (by kernel_rfl)) hHeld ?_;refine pu_ 10 64 be48_13 (any_of HT_.out (by kernel_rfl)) ?_;refine pu_ 11 65 be48_14 (any_of HT_.out (by kernel_rfl)) ?_;refine pu_ 12 66 be48_15 (any_of HT_.out (by kernel_rfl)) ?_;refine pv_ 13 67 be48_16 (any_of HT_.out (by kernel_rfl)) ?_;refine pv_ 14 68 be48_17 (any_of HT_.out (by kernel_rfl)) ?_;refine pv_ 15 69 be48_18 (any_of HT_.out (by kernel_rfl)) ?_;refine pv_ 16 70 be48_19 (any_of HT_.out (by kernel_rfl)) ?_
       refine pu_ 17 71 be48_20 (any_of HT_.out (by kernel_rfl)) ?_;refine pu_ 18 72 be48_21 (any_of HT_.out (by kernel_rfl)) ?_;refine pv_ 19 73 be48_22 (any_of HT_.out (by kernel_rfl)) ?_;refine pv_ 20 74 be48_38 (any_of HT_.out (by kernel_rfl)) ?_;refine pv_ 21 75 be48_39 (any_of HT_.out (by kernel_rfl)) ?_;refine pv_ 22 76 be48_25 (any_of HT_.out (by kernel_rfl)) ?_;refine pv_ 23 77 be48_26 (any_of HT_.out (by kernel_rfl)) ?_;refine pu_ 24 78 be48_27 (any_of HT_.out (by kernel_rfl)) ?_;refine pu_ 25 79 be48_28 (any_of HT_.out (by kernel_rfl)) ?_;refine pv_ 26 80 be48_29 (any_of HT_.out (by kernel_rfl)) ?_;refine pv_ 27 81 be48_30 (any_of HT_.out (by kernel_rfl)) ?_
       refine pv_ 28 82 be48_31 (any_of HT_.out (by kernel_rfl)) ?_;refine pu_ 29 83 be48_32 (any_of HT_.out (by kernel_rfl)) ?_;refine pu_ 30 84 be48_33 (any_of HT_.out (by kernel_rfl)) ?_;refine pv_ 31 85 be48_34 (any_of HT_.out (by kernel_rfl)) ?_;refine pv_ 32 86 be48_35 (any_of HT_.out (by kernel_rfl)) ?_;refine pv_ 33 87 be48_36 (any_of HT_.out (by kernel_rfl)) ?_;refine pu_ 34 88 be48_37 (any_of HT_.out (by kernel_rfl)) ?_;refine done_ (done_of HT_.out (by kernel_rfl)) ?_;try go_wp2
       go_meet
       case rel=>exact ue48_1
     ·replace c35:=Bool.eq_false_iff.mpr c35;subst c35;rw [if_neg (show ¬(false=true) by decide)] at H;have H':=a_ H;clear H;refine one_ (i:=5) (N:=some 59) be48_8 rfl rfl (one_of HT_.out (by kernel_rfl)) (by decide) (fun K hK=>?_);refine goes_ Tryz.func91 (by kernel_rfl) rfl #[.string (strOfNums y163),.slice Aoq10 t166.length coq11] (by rfl) rfl rfl mw_ ?_;with_reducible refine (spec_l2Is.calls kj4 (strOfNums y163) _ _ t166 false _ ?side1 ?side2 A34.out).mono ?_
      (case side1=>repeat (first|exact (Kd.R_reads' HO168.out).2.2|(with_reducible refine Kd.C_alloc ?_ _)|(with_reducible refine Kd.C_drewN ?_ _)|(with_reducible refine Kd.C_drew ?_)))
      (case side2=>exact (Kd.R_reads' HO168.out).2.1)
      rintro e w' ⟨rfl,⟨nd,rfl⟩⟩;refine ⟨_,rfl,?_⟩;refine hK.out _ _ (bc8 BK159) fun hHeld=>?_
      clear hK K;refine nm_ 59 ?_;refine pu_ 6 60 be48_9 (any_of HT_.out (by kernel_rfl)) ?_;refine pu_ 7 61 be48_10 (any_of HT_.out (by kernel_rfl)) ?_;refine pv_ 8 62 be48_11 (any_of HT_.out (by kernel_rfl)) ?_;refine pv_ 9 63 be48_12 (any_of HT_.out (by kernel_rfl)) ?_;refine pv_ 10 64 be48_13 (any_of HT_.out (by kernel_rfl)) ?_;refine pu_ 11 65 be48_14 (any_of HT_.out (by kernel_rfl)) ?_;refine pu_ 12 66 be48_15 (any_of HT_.out (by kernel_rfl)) ?_;refine pv_ 13 67 be48_16 (any_of HT_.out (by kernel_rfl)) ?_;refine pv_ 14 68 be48_17 (any_of HT_.out (by kernel_rfl)) ?_;refine pv_ 15 69 be48_18 (any_of HT_.out (by kernel_rfl)) ?_;refine pv_ 16 70 be48_19 (any_of HT_.out (by kernel_rfl)) ?_
      refine pu_ 17 71 be48_20 (any_of HT_.out (by kernel_rfl)) ?_;refine pu_ 18 72 be48_21 (any_of HT_.out (by kernel_rfl)) ?_;refine pv_ 19 73 be48_22 (any_of HT_.out (by kernel_rfl)) ?_;refine pv_ 20 74 be48_38 (any_of HT_.out (by kernel_rfl)) ?_;refine pv_ 21 75 be48_39 (any_of HT_.out (by kernel_rfl)) ?_;refine pv_ 22 76 be48_25 (any_of HT_.out (by kernel_rfl)) ?_;refine pv_ 23 77 be48_26 (any_of HT_.out (by kernel_rfl)) ?_;refine pu_ 24 78 be48_27 (any_of HT_.out (by kernel_rfl)) ?_;refine pu_ 25 79 be48_28 (any_of HT_.out (by kernel_rfl)) ?_;refine pv_ 26 80 be48_29 (any_of HT_.out (by kernel_rfl)) ?_;refine pv_ 27 81 be48_30 (any_of HT_.out (by kernel_rfl)) ?_
      refine pv_ 28 82 be48_31 (any_of HT_.out (by kernel_rfl)) ?_;refine pu_ 29 83 be48_32 (any_of HT_.out (by kernel_rfl)) ?_;refine pu_ 30 84 be48_33 (any_of HT_.out (by kernel_rfl)) ?_;refine pv_ 31 85 be48_34 (any_of HT_.out (by kernel_rfl)) ?_;refine pv_ 32 86 be48_35 (any_of HT_.out (by kernel_rfl)) ?_;refine pv_ 33 87 be48_36 (any_of HT_.out (by kernel_rfl)) ?_;refine pu_ 34 88 be48_37 (any_of HT_.out (by kernel_rfl)) ?_;refine done_ (done_of HT_.out (by kernel_rfl)) ?_;try go_wp2
      go_meet
      case rel=>exact ue48_1
    clear HC31;obtain ⟨kq,x88_30,rfl,HA,HJ30,BK159,HB⟩:=hcut;obtain _|kj30:=kq
    ·exact absurd HA.out (by simp [spec_l2GoodExpr.j1])
    have H:=HA.out;clear HA;simp only [spec_l2GoodExpr.j1] at H;by_cases c87:x88_30=true
    ·subst c87;rw [if_pos rfl] at H;obtain rfl:=oi_ H;go_wp2;go_ret;exact ⟨me_,mb_ HB⟩
    ·replace c87:=Bool.eq_false_iff.mpr c87;subst c87;rw [if_neg (show ¬(false=true) by decide)] at H;obtain ⟨t171,A88,H⟩:=ob_ H;have HD:=a_ H;clear H;try go_wp2
     replace BK159:=a_ (blk_drew BK159.out);replace HB:=a_ (below_drew1 HB.out);refine start_ (n:=15) (S:=fun w'=>w'.cell? ⟨gb159,0,none⟩=some (.int .i64 ((rd_T106 l0 a1).f0))∧w'.cell? ⟨gb159,1,none⟩=some (.int .u8 ((rd_T106 l0 a1).f1))∧w'.cell? ⟨gb159,2,none⟩=some (.string ((rd_T106 l0 a1).f2))∧w'.cell? ⟨gb159,3,none⟩=some (.int .i64 ((rd_T106 l0 a1).f3.f0))∧w'.cell? ⟨gb159,4,none⟩=some (.int .i64 ((rd_T106 l0 a1).f3.f1))∧w'.cell? ⟨gb159,5,none⟩=some (.string ((rd_T106 l0 a1).f3.f2))∧w'.cell? ⟨gb159,6,none⟩=some (.int .i64 ((rd_T106 l0 a1).f4))∧w'.cell? ⟨gb159,7,none⟩=some (.int .i64 ((rd_T106 l0 a1).f5))) (ds:=[]) be48_40 (by kernel_rfl) rfl rfl ⟨bk_ BK159 0,bk_ BK159 1,bk_ BK159 2,bk_ BK159 3,bk_ BK159 4,bk_ BK159 5,bk_ BK159 6,bk_ BK159 7⟩ (fun hHeld=>?_);refine with_tabW spec_l2GoodExpr.tab11 spec_l2GoodExpr.bits11 (fun HT_ HW_=>?_);generalize wc.drew=wq0 at BK159 HB hHeld ⊢;refine pu_ 0 89 be48_41 (any_of HT_.out (by kernel_rfl)) ?_;refine pu_ 2 91 be48_42 (any_of HT_.out (by kernel_rfl)) ?_;refine pu_ 3 92 be48_43 (any_of HT_.out (by kernel_rfl)) ?_;refine tk_ 1 90 be48_44 (take_ofW HT_.out HW_.out (by kernel_rfl)) hHeld ?_;refine tk_ 4 93 be48_45 (take_ofW HT_.out HW_.out (by kernel_rfl)) hHeld ?_;refine one_ (i:=5) (N:=some 94) be48_46 rfl rfl (one_of HT_.out (by kernel_rfl)) (by decide) (fun K hK=>?_);refine goes_ Tryz.func92 (by kernel_rfl) rfl #[.slice (some ad158) l0.length c0,.int .i64 ((rd_T106 l0 a1).f5)] (by rfl) rfl rfl mw_ ?_;with_reducible refine (spec_l2First.calls kj30 _ _ l0 ((rd_T106 l0 a1).f5) t171 _ ?side1 ?side2 A88.out).mono ?_
     (case side1=>exact mt_ HR0 HB)
     (case side2=>exact HC0.out)
     rintro e w' ⟨rfl,⟨nd,rfl⟩⟩;refine ⟨_,rfl,?_⟩;refine hK.out _ _ (bc8 BK159) fun hHeld=>?_
     clear hK K;refine nm_ 94 ?_;refine pu_ 6 95 be48_47 (any_of HT_.out (by kernel_rfl)) ?_;refine pu_ 7 96 be48_48 (any_of HT_.out (by kernel_rfl)) ?_;refine pu_ 8 97 be48_49 (any_of HT_.out (by kernel_rfl)) ?_;have H:=HD.out;clear HD;by_cases c89:((rd_T106 l0 a1).f4)=(wrap64 (t171-1))
     ·rw [if_pos c89] at H;obtain ⟨c89b0,c89b1⟩:=bq_ c89;clear c89;obtain ⟨t172,A90,H⟩:=ob_ H;obtain rfl:=oi_ H;(try simp only [c89b0,c89b1]);refine pu_ 9 98 be48_50 (any_of HT_.out (by kernel_rfl)) ?_;refine pu_ 10 99 be48_51 (any_of HT_.out (by kernel_rfl)) ?_;refine one_ (i:=11) (N:=some 100) be48_52 rfl rfl (one_of HT_.out (by kernel_rfl)) (by decide) (fun K hK=>?_);refine goes_ Tryz.func110 (by kernel_rfl) rfl #[.slice (some ad158) l0.length c0,.int .i64 a1] (by rfl) rfl rfl mw_ ?_;with_reducible refine (spec_l2Depth.calls kj30 _ _ l0 a1 t172 _ ?side1 ?side2 A90.out).mono ?_
      (case side1=>repeat (first|exact (Kd.C_below HR0.out (mb_ HB))|(with_reducible refine Kd.C_alloc ?_ _)|(with_reducible refine Kd.C_drewN ?_ _)|(with_reducible refine Kd.C_drew ?_)))
      (case side2=>exact HC0.out)
      rintro e w' ⟨rfl,⟨nd,rfl⟩⟩;refine ⟨_,rfl,?_⟩;refine hK.out _ _ (bc8 BK159) fun hHeld=>?_
      clear hK K;refine nm_ 100 ?_;refine pu_ 12 101 be48_53 (any_of HT_.out (by kernel_rfl)) ?_;refine pu_ 13 102 be48_54 (any_of HT_.out (by kernel_rfl)) ?_;refine pu_ 14 4 be48_55 (any_of HT_.out (by kernel_rfl)) ?_;refine done_ (done_of HT_.out (by kernel_rfl)) ?_;try go_wp2
      go_ret;exact ⟨me_,mb_ HB⟩
     ·rw [if_neg c89] at H;obtain ⟨c89b0,c89b1⟩:=bn_ c89;obtain rfl:=oi_ H;(try simp only [c89b0,c89b1]);refine pv_ 9 98 be48_50 (any_of HT_.out (by kernel_rfl)) ?_;refine pv_ 10 99 be48_51 (any_of HT_.out (by kernel_rfl)) ?_;refine pv_ 11 100 be48_52 (any_of HT_.out (by kernel_rfl)) ?_;refine pv_ 12 101 be48_53 (any_of HT_.out (by kernel_rfl)) ?_;refine pu_ 13 102 be48_54 (any_of HT_.out (by kernel_rfl)) ?_;refine pu_ 14 4 be48_55 (any_of HT_.out (by kernel_rfl)) ?_;refine done_ (done_of HT_.out (by kernel_rfl)) ?_;try go_wp2
      go_ret;exact ⟨me_,mb_ HB⟩
   ·rw [if_neg c30] at H;obtain ⟨c30b0,c30b1⟩:=bn_ c30;exact ue48_2
end Go.Proofs.YtejjlkbbnhpbdaaGreat.P
namespace Go.Proofs.YtejjlkbbnhpbdaaGreatX
open Go.RowKit Go.Proofs.YtejjlkbbnhpbdaaGreatW.PrintWords
set_option linter.unusedVariables false
set_option linter.unusedSimpArgs false
def bigN:Nat:=4611686018427387903
theorem le_of_bigN {n:Nat} (h:n≤bigN):n≤4611686018427387903:=h
def PredB (P:Program) (g:Nat) (lb:Array Value) {α : Type} (enc : α→Value) (p : α→Bool) (xs:List α) (w:World):Prop:=
 ∀(W:World) (x : α),x∈xs→Below w.heap.size w W→Calls P g (#[enc x]++lb) W fun e w'=>e=.returned (.bool (p x))∧Below W.heap.size W w'
def idxB {α : Type} (p : α→Bool):List α→Int
 | []=>-1
 | x::xs=>if p x then 0 else (if idxB p xs<0 then -1 else idxB p xs+1)
theorem idxB_neg {α : Type} (p : α→Bool) (xs:List α):idxB p xs=-1∨0≤idxB p xs:=by
 induction xs with
 | nil=>exact .inl rfl
 | cons x xs ih=>
  simp only [idxB];split
  ·exact .inr (by omega)
  ·split
   ·exact .inl rfl
   ·exact .inr (by omega)
theorem idxB_miss {α : Type} (p : α→Bool) (xs:List α) (h:∀x,x∈xs→p x=false):idxB p xs=-1:=by
 induction xs with
 | nil=>rfl
 | cons x xs ih=>
  simp only [idxB];rw [h x List.mem_cons_self,ih (fun y hy=>h y (List.mem_cons_of_mem _ hy))];simp
theorem idxB_hit {α : Type} (p : α→Bool):∀(xs:List α) (k:Nat) (z : α),k<xs.length→p (xs.getD k z)=true→(∀j,j<k→p (xs.getD j z)=false)→idxB p xs=k
 | [],k,z,hk,_,_=>absurd hk (by simp)
 | x::xs,0,z,_,hp,_=>by
  have:p x=true:=hp
  simp [idxB,this]
 | x::xs,k+1,z,hk,hp,hm=>by
  have h0:p x=false:=hm 0 (by omega)
  have ih:=idxB_hit p xs k z (by simpa using hk) hp (fun j hj=>hm (j+1) (by omega));simp only [idxB,h0,ih];rw [if_neg (by simp),if_neg (by omega)];simp
theorem idxB_iff {α : Type} (p : α→Bool) (xs:List α):idxB p xs≥0↔xs.any p=true:=by
 induction xs with
 | nil=>simp [idxB]
 | cons x xs ih=>
  rw [List.any_cons,idxB];by_cases hp:p x=true
  ·rw [if_pos hp,hp];simp
  ·rw [if_neg hp,Bool.eq_false_iff.2 hp,Bool.false_or,←ih];rcases idxB_neg p xs with h|h
   ·rw [h];simp
   ·rw [if_neg (by omega)];omega
theorem idxB_any {α : Type} (p : α→Bool) (xs:List α):decide (idxB p xs≥0)=xs.any p:=by
 rw [Bool.eq_iff_iff,decide_eq_true_iff];exact idxB_iff p xs
theorem getD_mem {α : Type} {xs:List α} {k:Nat} {z : α} (h:k<xs.length):xs.getD k z∈xs:=by
 rw [List.getD_eq_getElem?_getD,List.getElem?_eq_getElem h];exact List.getElem_mem h
theorem cellsBelow {W w1:World} {n:Nat} (hb:Below n W w1) (h:n=W.heap.size):(∀b o,b<n→w1.cell? ⟨b,o,none⟩=W.cell? ⟨b,o,none⟩)∧(∀b o,b<n→w1.frozen? ⟨b,o,none⟩=W.frozen? ⟨b,o,none⟩):=by
 subst h;exact ⟨fun b o h=>hb.cell (p:=⟨b,o,none⟩) h,fun b o h=>hb.frozen (p:=⟨b,o,none⟩) h⟩
end Go.Proofs.YtejjlkbbnhpbdaaGreatX
namespace Go.Proofs.YtejjlkbbnhpbdaaGreatX
open Go Go.RowKit Go.Proofs.YtejjlkbbnhpbdaaGreatW.PrintWords
set_option linter.unusedVariables false
set_option linter.unusedSimpArgs false
theorem blk_new1 (w:World) (o o':Obj):((w.alloc o).alloc o').heap[w.heap.size+1]?=some o':=by
 have h:=blk_new (w.alloc o) o';rwa [show (w.alloc o).heap.size=w.heap.size+1 by simp] at h
end Go.Proofs.YtejjlkbbnhpbdaaGreatX
namespace Go.Proofs.YtejjlkbbnhpbdaaGreat.P
open Go.Proofs.YtejjlkbbnhpbdaaGreatX
open Go.RowKit Go.Proofs.YtejjlkbbnhpbdaaGreatW.PrintWords Go.Proofs.YtejjlkbbnhpbdaaGreatW.PrintLast Go.Proofs.YtejjlkbbnhpbdaaGreatW.PrintMore
attribute [local go_sem] max2_int min2_int max_two min_two max_three min_three max_four min_four
set_option linter.unusedVariables false
set_option linter.unusedSimpArgs false
open Go.Proofs.YtejjlkbbnhpbdaaGreatX
def spec_l2GoodAct.g (k:Nat) (es:List S106):List Int→Int→Option (Bool×Int)
 | [],n=>some (true,n)
 | x::xs,n=>if 0≤x∧x<(es.length:Int) then (spec_l2First.f k es x).bind fun t=>if t=n then spec_l2GoodAct.g k es xs (wrap64 (x+1)) else some (false,n) else some (false,n)
def spec_l2GoodAct.f (k:Nat) (es:List S106) (kd K:Int) (cls:ByteArray) (xs:List Int) (n:Int):Option (Bool×Int):=
 if kd=1 then (if 6<xs.length then some (false,n) else (spec_l2GoodCls.f k cls).bind fun g=>if g=true then (if K=0 then spec_l2GoodAct.g k es xs n else some (false,n)) else some (false,n)) else
 if kd=2 then (if xs=[] then (if cls.toList=[] then (if K < -1000000 then some (false,n) else if 1000000<K then some (false,n) else some (true,n)) else some (false,n)) else some (false,n)) else
 if kd=3 then (if 6<xs.length then some (false,n) else if cls.toList=[] then (if K < -1000000 then some (false,n) else if 1000000<K then some (false,n) else spec_l2GoodAct.g k es xs n) else some (false,n)) else
 if kd=4 then (if xs=[] then (if cls.toList=[] then (if K=0 then some (true,n) else some (false,n)) else some (false,n)) else some (false,n)) else some (false,n)
theorem spec_l2GoodAct.mono_g:∀es xs n k,LeO (spec_l2GoodAct.g k es xs n) (spec_l2GoodAct.g (k+1) es xs n)
 | es,[],n,k=>LeO.refl _
 | es,x::xs,n,k=>by
  unfold spec_l2GoodAct.g
  exact LeO.ite (LeO.bind (spec_l2First.mono _ _ k) (fun t=>LeO.ite (spec_l2GoodAct.mono_g _ _ _ k) (LeO.refl _))) (LeO.refl _)
theorem spec_l2GoodAct.mono:∀a0 a1 a2 a3 a4 a5 k,LeO (spec_l2GoodAct.f k a0 a1 a2 a3 a4 a5) (spec_l2GoodAct.f (k+1) a0 a1 a2 a3 a4 a5):=by
 intro a0 a1 a2 a3 a4 a5 k;unfold spec_l2GoodAct.f
 exact LeO.ite (LeO.ite (LeO.refl _) (LeO.bind (spec_l2GoodCls.mono _ k) (fun _=>LeO.ite (LeO.ite (spec_l2GoodAct.mono_g _ _ _ k) (LeO.refl _)) (LeO.refl _)))) (LeO.ite (LeO.refl _) (LeO.ite (LeO.ite (LeO.refl _) (LeO.ite (LeO.ite (LeO.refl _) (LeO.ite (LeO.refl _) (spec_l2GoodAct.mono_g _ _ _ k))) (LeO.refl _))) (LeO.refl _)))
theorem l2_ba {a:ByteArray} (h:a.toList=[]):a=⟨#[]⟩:=by
 rw [ByteArray.toList_eq] at h;cases a with|mk x=>
 exact congrArg ByteArray.mk (Array.toList_eq_nil_iff.1 h)
theorem l2_g_cons (k:Nat) (es:List S106) (xs:List Int) (n:Int) (i:Nat) (h:i<xs.length) (p:Bool×Int) (hg:spec_l2GoodAct.g k es (xs.drop i) n=some p):(if 0≤rd xs (i:Int)∧rd xs (i:Int)<(es.length:Int) then (spec_l2First.f k es (rd xs (i:Int))).bind fun t=>if t=n then spec_l2GoodAct.g k es (xs.drop (i+1)) (wrap64 (rd xs (i:Int)+1)) else some (false,n) else some (false,n))=some p:=by
 have e:rd xs (i:Int)=xs[i]:=by
  unfold rd
  simp [h]
 rw [List.drop_eq_getElem_cons h] at hg;unfold spec_l2GoodAct.g at hg
 rw [e];exact hg
theorem u9b8_7 {p:Prop} (h:p:=by
 rw [if_pos c5] at h;cases h;have q5:decide (1000000<K)=true:=ct_ c5
 clear c5;go_enter Tryz.func90,Tryz.ntmps90;go_wp2;go_ret;exact ⟨rfl,HBB.out,HG.out,HG.out.size⟩):p:=h
theorem u9b8_6 {p:Prop} (h:p:=by
 rw [if_pos c4] at h;cases h;have q4:decide (K < -1000000)=true:=ct_ c4
 clear c4;go_enter Tryz.func90,Tryz.ntmps90;go_wp2;go_ret;exact ⟨rfl,HBB.out,HG.out,HG.out.size⟩):p:=h
theorem u9b8_5 {p:Prop} (h:p:=by
 rw [if_pos c1] at h;cases h;have q1:decide ((6:Int)<(xs.length:Int))=true:=decide_eq_true (by omega)
 clear c1;go_enter Tryz.func90,Tryz.ntmps90;go_wp2;go_ret;exact ⟨rfl,HBB.out,HG.out,HG.out.size⟩):p:=h
theorem u9b8_4 {p:Prop} (h:p:=by
 go_enter Tryz.func90,Tryz.ntmps90;go_wp2;go_ret;exact ⟨rfl,HBB.out,HG.out,HG.out.size⟩):p:=h
theorem u9b8_3 {p:Prop} (h:p:=by
 cases h;go_enter Tryz.func90,Tryz.ntmps90;go_wp2;go_loopg [90] 0 (fun gg v90 wr=>v90=.int .i64 0∧Aside0 (wr.heap[b]?=some (.cells #[.int .i64 n] 3 (0,0)))∧Aside0 (w.grownBy wr (some b)))
 case atStart=>exact ⟨rfl,HBB,HG⟩
 obtain ⟨rfl,HB2,HG2⟩:=hrel;go_wp2;go_ret;exact ⟨rfl,HB2.out,HG2.out,HG2.out.size⟩):p:=h
theorem u9b8_2 {p:Prop} (h:p:=by
 ·rw [if_neg c2] at h;cases h;have s1:(cls.toList==([]:List UInt8))=false:=beq_eq_false_iff_ne.mpr c2
  have s2:(cls.toList != ([]:List UInt8))=true:=bne_iff_ne.mpr c2
  have s3:cls.toList.isEmpty=false:=by simpa using c2
  clear c2;go_enter Tryz.func90,Tryz.ntmps90;go_wp2;go_ret;exact ⟨rfl,HBB.out,HG.out,HG.out.size⟩):p:=h
theorem u9b8_0 {p:Prop} (h:p:=by
 obtain ⟨i,m,hi,hgg,rfl,HH2,HB2,HG2,BK2⟩:=hrel;have HBW2:Aside0 (Below w0.heap.size w0 wr):=⟨HB.out.grown HG2.out HB.out.size (by intro q e;injection e with e;have:=HB0.out;omega)⟩
 by_cases hlt:i<xs.length
 ·have hz:(i:Int)<(xs.length:Int):=by omega
  have hz0:(0:Int)≤(i:Int):=by omega
  obtain ⟨ad,eA,hx⟩:=Kd.at_int HX.out (i:Int) hz0 hz;subst eA;replace hx:=(HBW2.out.cell (World.block_lt_of_cell? w0 _ hx)).trans hx;have hstep:=l2_g_cons k es xs m i hlt _ HH2.out;have hb0:=cell_of_one HB2.out;have hbf:=free_of_one HB2.out;have hy3:=(blk_cell BK2.out 3).trans rfl;simp only [List.getElem?_toArray,List.getElem?_cons_zero,List.getElem?_cons_succ] at hy3;have hnext:IntKind.i64.wrap ((i:Int)+1)=(i:Int)+1:=IntWalk.i64_in _ (by have:=HXL.out;omega)
  have HN:=a_ hnext;simp only [Int.toNat_natCast] at hx;generalize rd xs (i:Int)=x at *;clear hnext;by_cases d1:x<0
  ·rw [if_neg (by omega)] at hstep;cases hstep;have q1:decide (x<0)=true:=decide_eq_true d1
   clear d1;go_wp2;go_quiet (fail)
   go_wp2;go_ret;exact ⟨rfl,blk_drewN HB2.out _,HG2.out.trans (grown_of_below (pw_below_drewN (Below.refl _ _) _) _),HG2.out.size⟩
  by_cases d2:(es.length:Int)≤x
  ·rw [if_neg (by omega)] at hstep;cases hstep;have q1:decide (x<0)=false:=decide_eq_false d1
   have q2:decide ((es.length:Int)≤x)=true:=decide_eq_true d2
   clear d1 d2;go_wp2;go_quiet (fail)
   go_wp2;go_ret;exact ⟨rfl,blk_drewN HB2.out _,HG2.out.trans (grown_of_below (pw_below_drewN (Below.refl _ _) _) _),HG2.out.size⟩
  rw [if_pos (by omega)] at hstep;obtain ⟨t,ht,hs2⟩:=Option.bind_eq_some_iff.1 hstep;have HT:=a_ ht;clear ht hstep;have q1:decide (x<0)=false:=decide_eq_false d1
  have q2:decide ((es.length:Int)≤x)=false:=decide_eq_false d2
  clear d1 d2;by_cases d3:t=m
  ·rw [if_pos d3] at hs2;subst d3;have HS2:=a_ hs2;clear hs2;go_wp2;go_quiet ((go_at_call 92;refine (spec_l2First.calls k A3 c3 es x t _ (Kd.C_below HR.out (by repeat (first|exact HBW2.out|apply below_drew|apply pw_below_drewN))) HC.out HT.out).mono ?_;rintro e w4 ⟨rfl,⟨nd,rfl⟩⟩;(try first|exact ⟨rfl,_,World.drewN_drewN _ _ _⟩|exact ⟨rfl,_,Eq.trans (World.drewN_drewN _ _ _) (congrArg (World.drewN _) (Nat.add_assoc _ _ _))⟩)))
   generalize hq:wr.drewN nq=wq;have HB4:=a_ (blk_at hq HB2.out);have BK4:=a_ (blk_at hq BK2.out);have HG4:Aside0 (w.grownBy wq (some b)):=⟨by subst hq;exact HG2.out.trans (grown_of_below (pw_below_drewN (Below.refl _ _) _) _)⟩
   clear hq hb0 hbf hy3 hx;have hb4:=cell_of_one HB4.out;have hbf4:=free_of_one HB4.out;go_wp2;go_roundg (xs.length-(i+1))
   case measure=>omega
   case rel=>exact ⟨i+1,_,by omega,by omega,by rw [show wrap64 ((i:Int)+1)=((i+1:Nat):Int) by unfold wrap64;have:=HXL.out;omega],HS2,⟨one_setCell HB4.out⟩,⟨HG4.out.trans (grownBy_setCell' _ _ _)⟩,⟨(Below.heap_setCell _ _ _ _ (by have:=HBW.out;show w.heap.size≠b;omega)).trans BK4.out⟩⟩
  ·rw [if_neg d3] at hs2;cases hs2;have q3:(t==n')=false:=by simpa using d3
   have q4:(t != n')=true:=by simpa using d3
   clear d3;go_wp2;go_quiet ((go_at_call 92;refine (spec_l2First.calls k A3 c3 es x t _ (Kd.C_below HR.out (by repeat (first|exact HBW2.out|apply below_drew|apply pw_below_drewN))) HC.out HT.out).mono ?_;rintro e w4 ⟨rfl,⟨nd,rfl⟩⟩;(try first|exact ⟨rfl,_,World.drewN_drewN _ _ _⟩|exact ⟨rfl,_,Eq.trans (World.drewN_drewN _ _ _) (congrArg (World.drewN _) (Nat.add_assoc _ _ _))⟩)))
   go_wp2;go_ret;exact ⟨rfl,blk_drewN HB2.out _,HG2.out.trans (grown_of_below (pw_below_drewN (Below.refl _ _) _) _),HG2.out.size⟩
 ·have hil:i=xs.length:=by omega
  subst hil;have e0:=HH2.out;rw [List.drop_length] at e0;unfold spec_l2GoodAct.g at e0
  cases e0;clear HH2;go_wp2;go_ret;exact ⟨rfl,HB2.out,HG2.out,HG2.out.size⟩):p:=h
theorem u9b8_1 {p:Prop} (h:p:=by
 ·rw [if_neg c1] at h;cases h;have c3:0<xs.length:=by cases xs with|nil=>exact absurd rfl c1|cons a l=>simp
  have q2:decide ((0:Int)<(xs.length:Int))=true:=decide_eq_true (by omega)
  have q3:decide (0<xs.length)=true:=ct_ c3
  clear c1 c3;by_cases c4:6<xs.length
  ·have q1:decide ((6:Int)<(xs.length:Int))=true:=decide_eq_true (by omega)
   clear c4;exact u9b8_4
  ·have q1:decide ((6:Int)<(xs.length:Int))=false:=decide_eq_false (by omega)
   clear c4;exact u9b8_4):p:=h
set_option maxHeartbeats 8000000 in
set_option maxRecDepth 100000 in
theorem spec_l2GoodAct.calls (k:Nat) (nm:ByteArray) (sa:Int) (A2:Option Addr) (n2 c2:Nat) (A3:Option Addr) (c3:Nat) (es:List S106) (A4:Option Addr) (n4 c4:Nat) (kd K:Int) (cls:ByteArray) (B:Option Addr) (cB:Nat) (xs:List Int) (b:Nat) (n n':Int) (r:Bool) (w0 w:World) (hB:Below w0.heap.size w0 w) (hr3:Kd.C k106 w0 A3 es.length es) (hc3:es.length≤c3) (hrx:Kd.C (Kd.int .i64) w0 B xs.length xs) (hbb:w.heap[b]?=some (.cells #[.int .i64 n] 3 (0,0))) (hb0:w0.heap.size≤b) (h:spec_l2GoodAct.f k es kd K cls xs n=some (r,n')):
  Calls Tryz.prog 90 #[.agg #[.string nm,.int .i64 sa,.slice A2 n2 c2,.slice A3 es.length c3,.slice A4 n4 c4],.agg #[.int .i64 kd,.int .i64 K,.string cls,.slice B xs.length cB],.pointer (some ⟨b,0,none⟩)] w fun e w'=>e=.returned (.bool r)∧w'.heap[b]?=some (.cells #[.int .i64 n'] 3 (0,0))∧w.grownBy w' (some b)∧w.heap.size≤w'.heap.size:=by
 have hu:=Tryz.underlying58;have hu2:=Tryz.underlying108;have HB:=a_ hB;have HR:=a_ hr3;have HC:=a_ hc3;have HX:=a_ hrx;have HB0:=a_ hb0;have HBB:=a_ (blk_alloc (blk_alloc hbb (.cells #[.string nm,.int .i64 sa,.slice A2 n2 c2,.slice A3 es.length c3,.slice A4 n4 c4] 58)) (.cells #[.int .i64 kd,.int .i64 K,.string cls,.slice B xs.length cB] 108));have HG:=a_ (World.grownBy_alloc w (.cells #[.string nm,.int .i64 sa,.slice A2 n2 c2,.slice A3 es.length c3,.slice A4 n4 c4] 58) (some b) |>.trans (World.grownBy_alloc _ (.cells #[.int .i64 kd,.int .i64 K,.string cls,.slice B xs.length cB] 108) (some b)));have BK:=a_ (blk_alloc (blk_new w (.cells #[.string nm,.int .i64 sa,.slice A2 n2 c2,.slice A3 es.length c3,.slice A4 n4 c4] 58)) (.cells #[.int .i64 kd,.int .i64 K,.string cls,.slice B xs.length cB] 108));have BA:=a_ (blk_new1 w (.cells #[.string nm,.int .i64 sa,.slice A2 n2 c2,.slice A3 es.length c3,.slice A4 n4 c4] 58) (.cells #[.int .i64 kd,.int .i64 K,.string cls,.slice B xs.length cB] 108));have HBW:Aside0 (b<w.heap.size):=⟨lt_of_block hbb⟩
 have HXL:Aside0 (xs.length≤9223372036854775807):=⟨hrx.2.1⟩
 clear hB hr3 hc3 hrx hbb hb0;unfold spec_l2GoodAct.f at h
 by_cases k1:kd=1
 ·subst k1;rw [if_pos rfl] at h;by_cases c1:6<xs.length
  ·exact u9b8_5
  rw [if_neg c1] at h;have q1:decide ((6:Int)<(xs.length:Int))=false:=decide_eq_false (by omega)
  clear c1;obtain ⟨g,hg,h⟩:=Option.bind_eq_some_iff.1 h;have HGC:=a_ hg;clear hg;cases g with
  | false=>
   rw [if_neg (by simp)] at h;cases h;go_enter Tryz.func90,Tryz.ntmps90;go_wp2_with (go_at_call 105;refine (spec_l2GoodCls.calls k cls false _ HGC.out).mono ?_;rintro e w1 ⟨rfl,hd⟩;have HBB1:=a_ (blk_below HBB.out hd.below);have BK1:=a_ (blk_below BK.out hd.below);have HG1:=a_ (HG.out.trans (grown_of_below hd.below (some b)));have BA1:=blk_below BA.out hd.below;have ha0:=(blk_cell BA1 0).trans rfl;have ha1:=(blk_cell BA1 1).trans rfl;have ha2:=(blk_cell BA1 2).trans rfl;have ha3:=(blk_cell BA1 3).trans rfl;simp only [List.getElem?_toArray,List.getElem?_cons_zero,List.getElem?_cons_succ] at ha0 ha1 ha2 ha3;clear hd BA1);go_ret;exact ⟨rfl,HBB1.out,HG1.out,HG1.out.size⟩
  | true=>
  rw [if_pos rfl] at h;by_cases c2:K=0
  ·subst c2;rw [if_pos rfl] at h;have HH:Aside0 (spec_l2GoodAct.g k es (xs.drop 0) n=some (r,n')):=⟨h⟩
   clear h;go_enter Tryz.func90,Tryz.ntmps90;go_wp2_with (go_at_call 105;refine (spec_l2GoodCls.calls k cls true _ HGC.out).mono ?_;rintro e w1 ⟨rfl,hd⟩;have HBB1:=a_ (blk_below HBB.out hd.below);have BK1:=a_ (blk_below BK.out hd.below);have HG1:=a_ (HG.out.trans (grown_of_below hd.below (some b)));have BA1:=blk_below BA.out hd.below;have ha0:=(blk_cell BA1 0).trans rfl;have ha1:=(blk_cell BA1 1).trans rfl;have ha2:=(blk_cell BA1 2).trans rfl;have ha3:=(blk_cell BA1 3).trans rfl;simp only [List.getElem?_toArray,List.getElem?_cons_zero,List.getElem?_cons_succ] at ha0 ha1 ha2 ha3;clear hd BA1);go_loopg [90] xs.length (fun gg v90 wr=>∃(i:Nat) (m:Int),i≤xs.length∧xs.length-i≤gg∧v90=.int .i64 (i:Int)∧Aside0 (spec_l2GoodAct.g k es (xs.drop i) m=some (r,n'))∧Aside0 (wr.heap[b]?=some (.cells #[.int .i64 m] 3 (0,0)))∧Aside0 (w.grownBy wr (some b))∧Aside0 (wr.heap[w.heap.size]?=some (.cells #[.string nm,.int .i64 sa,.slice A2 n2 c2,.slice A3 es.length c3,.slice A4 n4 c4] 58 (0,0))))
   case atStart=>exact ⟨0,n,Nat.zero_le _,Nat.le_refl _,rfl,HH,HBB1,HG1,BK1⟩
   exact u9b8_0
  ·rw [if_neg c2] at h;cases h;have q3:(K==0)=false:=by simpa using c2
   have q4:(K != 0)=true:=by simpa using c2
   clear c2;go_enter Tryz.func90,Tryz.ntmps90;go_wp2_with (go_at_call 105;refine (spec_l2GoodCls.calls k cls true _ HGC.out).mono ?_;rintro e w1 ⟨rfl,hd⟩;have HBB1:=a_ (blk_below HBB.out hd.below);have BK1:=a_ (blk_below BK.out hd.below);have HG1:=a_ (HG.out.trans (grown_of_below hd.below (some b)));have BA1:=blk_below BA.out hd.below;have ha0:=(blk_cell BA1 0).trans rfl;have ha1:=(blk_cell BA1 1).trans rfl;have ha2:=(blk_cell BA1 2).trans rfl;have ha3:=(blk_cell BA1 3).trans rfl;simp only [List.getElem?_toArray,List.getElem?_cons_zero,List.getElem?_cons_succ] at ha0 ha1 ha2 ha3;clear hd BA1);go_ret;exact ⟨rfl,HBB1.out,HG1.out,HG1.out.size⟩
 by_cases k2:kd=2
 ·subst k2;clear k1;rw [if_neg (by decide),if_pos rfl] at h;by_cases c1:xs=[]
  ·subst c1;rw [if_pos rfl] at h;by_cases c2:cls.toList=[]
   ·rw [if_pos c2] at h;have c3:cls=⟨#[]⟩:=l2_ba c2
    subst c3;clear c2;by_cases c4:K < -1000000
    ·exact u9b8_6
    rw [if_neg c4] at h;have q4:decide (K < -1000000)=false:=cf_ c4
    clear c4;by_cases c5:1000000<K
    ·exact u9b8_7
    rw [if_neg c5] at h;have q5:decide (1000000<K)=false:=cf_ c5
    clear c5;exact u9b8_3
   exact u9b8_2
  exact u9b8_1
 by_cases k3:kd=3
 ·subst k3;clear k1 k2;rw [if_neg (by decide),if_neg (by decide),if_pos rfl] at h;by_cases c1:6<xs.length
  ·exact u9b8_5
  rw [if_neg c1] at h;have q1:decide ((6:Int)<(xs.length:Int))=false:=decide_eq_false (by omega)
  clear c1;by_cases c2:cls.toList=[]
  ·rw [if_pos c2] at h;have c3:cls=⟨#[]⟩:=l2_ba c2
   subst c3;clear c2;by_cases c4:K < -1000000
   ·exact u9b8_6
   rw [if_neg c4] at h;have q4:decide (K < -1000000)=false:=cf_ c4
   clear c4;by_cases c5:1000000<K
   ·exact u9b8_7
   rw [if_neg c5] at h;have q5:decide (1000000<K)=false:=cf_ c5
   clear c5;have HH:Aside0 (spec_l2GoodAct.g k es (xs.drop 0) n=some (r,n')):=⟨h⟩
   clear h;go_enter Tryz.func90,Tryz.ntmps90;go_wp2;go_loopg [90] xs.length (fun gg v90 wr=>∃(i:Nat) (m:Int),i≤xs.length∧xs.length-i≤gg∧v90=.int .i64 (i:Int)∧Aside0 (spec_l2GoodAct.g k es (xs.drop i) m=some (r,n'))∧Aside0 (wr.heap[b]?=some (.cells #[.int .i64 m] 3 (0,0)))∧Aside0 (w.grownBy wr (some b))∧Aside0 (wr.heap[w.heap.size]?=some (.cells #[.string nm,.int .i64 sa,.slice A2 n2 c2,.slice A3 es.length c3,.slice A4 n4 c4] 58 (0,0))))
   case atStart=>exact ⟨0,n,Nat.zero_le _,Nat.le_refl _,rfl,HH,HBB,HG,BK⟩
   exact u9b8_0
  exact u9b8_2
 by_cases k4:kd=4
 ·subst k4;clear k1 k2 k3;rw [if_neg (by decide),if_neg (by decide),if_neg (by decide),if_pos rfl] at h;by_cases c1:xs=[]
  ·subst c1;rw [if_pos rfl] at h;by_cases c2:cls.toList=[]
   ·rw [if_pos c2] at h;have c3:cls=⟨#[]⟩:=l2_ba c2
    subst c3;clear c2;by_cases c4:K=0
    ·subst c4;rw [if_pos rfl] at h;exact u9b8_3
    ·rw [if_neg c4] at h;cases h;have q4:(K==0)=false:=by simpa using c4
     have q5:(K != 0)=true:=by simpa using c4
     clear c4;go_enter Tryz.func90,Tryz.ntmps90;go_wp2;go_ret;exact ⟨rfl,HBB.out,HG.out,HG.out.size⟩
   exact u9b8_2
  exact u9b8_1
 rw [if_neg k1,if_neg k2,if_neg k3,if_neg k4] at h;cases h;have p1:(kd==1)=false:=by simpa using k1
 have p2:(kd==2)=false:=by simpa using k2
 have p3:(kd==3)=false:=by simpa using k3
 by_cases c1:kd<1
 ·have q1:decide (kd<1)=true:=ct_ c1
  clear c1 k1 k2 k3 k4;exact u9b8_4
 ·have q1:decide (kd<1)=false:=cf_ c1
  have q2:decide (4<kd)=true:=decide_eq_true (by omega)
  clear c1 k1 k2 k3 k4;exact u9b8_4
end Go.Proofs.YtejjlkbbnhpbdaaGreat.P
namespace Go.Proofs.YtejjlkbbnhpbdaaGreat.P
open Go.Proofs.YtejjlkbbnhpbdaaGreatX
open Go.RowKit Go.Proofs.YtejjlkbbnhpbdaaGreatW.PrintWords Go.Proofs.YtejjlkbbnhpbdaaGreatW.PrintLast Go.Proofs.YtejjlkbbnhpbdaaGreatW.PrintMore
attribute [local go_sem] max2_int min2_int max_two min_two max_three min_three max_four min_four
set_option linter.unusedVariables false
set_option linter.unusedSimpArgs false
open Go.Proofs.YtejjlkbbnhpbdaaGreatX
def spec_l2Shape.p (k:Nat):List S101→Nat→Option Int
 | [],_=>some (-1)
 | p::ps,i=>(spec_l2GoodPat.f k p.f0 p.f1 p.f2).bind fun g=>if g=true then spec_l2Shape.p k ps (i+1) else some ((i:Int)+1)
def spec_l2Shape.e (k:Nat) (es:List S106):Nat→Nat→Option Int
 | 0,_=>some (-1)
 | m+1,i=>(spec_l2GoodExpr.f k es (i:Int)).bind fun g=>if g=true then spec_l2Shape.e k es m (i+1) else some ((i:Int)+1)
def spec_l2Shape.a (k:Nat) (es:List S106):List S108→Nat→Int→Option (Int×Int)
 | [],_,n=>some (-1,n)
 | a::as_,i,n=>(spec_l2GoodAct.f k es a.f0 a.f1 a.f2 a.f3 n).bind fun y=>if y.1=true then spec_l2Shape.a k es as_ (i+1) y.2 else some ((i:Int)+1,y.2)
def spec_l2Shape.f (k:Nat) (nm:ByteArray) (sa:Int) (ps:List S101) (es:List S106) (as_:List S108):Option Int:=
 (spec_l1GoodSym.f k nm).bind fun g=>if g=true then (if 6<ps.length then some 0 else if 8<as_.length then some 0 else if 60<es.length then some 0 else
  (spec_l2Shape.p k ps 0).bind fun p=>if p=-1 then (spec_l2Shape.e k es es.length 0).bind fun e=>if e=-1 then (spec_l2Shape.a k es as_ 0 0).bind fun a=>if a.1=-1 then (if a.2=(es.length:Int) then some (-1) else some ((as_.length:Int)+1)) else some a.1 else some e else some p) else some 0
theorem spec_l2Shape.mono_p:∀ps i k,LeO (spec_l2Shape.p k ps i) (spec_l2Shape.p (k+1) ps i)
 | [],i,k=>LeO.refl _
 | p::ps,i,k=>LeO.bind (spec_l2GoodPat.mono _ _ _ k) (fun _=>LeO.ite (spec_l2Shape.mono_p ps _ k) (LeO.refl _))
theorem spec_l2Shape.mono_e:∀es m i k,LeO (spec_l2Shape.e k es m i) (spec_l2Shape.e (k+1) es m i)
 | es,0,i,k=>LeO.refl _
 | es,m+1,i,k=>LeO.bind (spec_l2GoodExpr.mono _ _ k) (fun _=>LeO.ite (spec_l2Shape.mono_e es m _ k) (LeO.refl _))
theorem spec_l2Shape.mono_a:∀es as_ i n k,LeO (spec_l2Shape.a k es as_ i n) (spec_l2Shape.a (k+1) es as_ i n)
 | es,[],i,n,k=>LeO.refl _
 | es,a::as_,i,n,k=>LeO.bind (spec_l2GoodAct.mono _ _ _ _ _ _ k) (fun _=>LeO.ite (spec_l2Shape.mono_a es as_ _ _ k) (LeO.refl _))
theorem spec_l2Shape.mono:∀a0 a1 a2 a3 a4 k,LeO (spec_l2Shape.f k a0 a1 a2 a3 a4) (spec_l2Shape.f (k+1) a0 a1 a2 a3 a4):=by
 intro a0 a1 a2 a3 a4 k;unfold spec_l2Shape.f
 exact LeO.bind (spec_l1GoodSym.mono _ k) (fun _=>LeO.ite (LeO.ite (LeO.refl _) (LeO.ite (LeO.refl _) (LeO.ite (LeO.refl _) (LeO.bind (spec_l2Shape.mono_p _ _ k) (fun _=>LeO.ite (LeO.bind (spec_l2Shape.mono_e _ _ _ k) (fun _=>LeO.ite (LeO.bind (spec_l2Shape.mono_a _ _ _ _ k) (fun _=>LeO.refl _)) (LeO.refl _))) (LeO.refl _)))))) (LeO.refl _))
theorem l2_p_cons (k:Nat) (ps:List S101) (i:Nat) (h:i<ps.length) (p:Int) (hg:spec_l2Shape.p k (ps.drop i) i=some p):((spec_l2GoodPat.f k (rd_T101 ps (i:Int)).f0 (rd_T101 ps (i:Int)).f1 (rd_T101 ps (i:Int)).f2).bind fun g=>if g=true then spec_l2Shape.p k (ps.drop (i+1)) (i+1) else some ((i:Int)+1))=some p:=by
 have e:rd_T101 ps (i:Int)=ps[i]:=by
  unfold rd_T101
  simp [h]
 rw [List.drop_eq_getElem_cons h] at hg;unfold spec_l2Shape.p at hg
 rw [e];exact hg
theorem l2_a_cons (k:Nat) (es:List S106) (as_:List S108) (i:Nat) (n:Int) (h:i<as_.length) (p:Int×Int) (hg:spec_l2Shape.a k es (as_.drop i) i n=some p):((spec_l2GoodAct.f k es (rd_T108 as_ (i:Int)).f0 (rd_T108 as_ (i:Int)).f1 (rd_T108 as_ (i:Int)).f2 (rd_T108 as_ (i:Int)).f3 n).bind fun y=>if y.1=true then spec_l2Shape.a k es (as_.drop (i+1)) (i+1) y.2 else some ((i:Int)+1,y.2))=some p:=by
 have e:rd_T108 as_ (i:Int)=as_[i]:=by
  unfold rd_T108
  simp [h]
 rw [List.drop_eq_getElem_cons h] at hg;unfold spec_l2Shape.a at hg
 rw [e];exact hg
theorem l2_e_cons (k:Nat) (es:List S106) (m i:Nat) (h:i<m) (p:Int) (hg:spec_l2Shape.e k es (m-i) i=some p):((spec_l2GoodExpr.f k es (i:Int)).bind fun g=>if g=true then spec_l2Shape.e k es (m-(i+1)) (i+1) else some ((i:Int)+1))=some p:=by
 rw [show m-i=(m-(i+1))+1 by omega] at hg;exact hg
set_option maxHeartbeats 8000000 in
set_option maxRecDepth 100000 in
theorem spec_l2Shape.walk (k:Nat) (nm:ByteArray) (sa:Int) (A2:Option Addr) (c2:Nat) (ps:List S101) (A3:Option Addr) (c3:Nat) (es:List S106) (A4:Option Addr) (c4:Nat) (as_:List S108) (r:Int) (w:World) (hr2:Kd.C k101 w A2 ps.length ps) (hr3:Kd.C k106 w A3 es.length es) (hc3:es.length≤c3) (hr4:Kd.C k108 w A4 as_.length as_) (h:spec_l2Shape.f k nm sa ps es as_=some r):
  Calls Tryz.prog 69 #[.agg #[.string nm,.int .i64 sa,.slice A2 ps.length c2,.slice A3 es.length c3,.slice A4 as_.length c4]] w fun e w'=>e=.returned (.int .i64 r)∧Below w.heap.size w w':=by
 have hu:=Tryz.underlying58;have hu2:=Tryz.underlying108;have hu3:=Tryz.underlying101;have HB:=a_ (below_alloc (Below.refl w.heap.size w) (.cells #[.string nm,.int .i64 sa,.slice A2 ps.length c2,.slice A3 es.length c3,.slice A4 as_.length c4] 58));have BK:=a_ (blk_new w (.cells #[.string nm,.int .i64 sa,.slice A2 ps.length c2,.slice A3 es.length c3,.slice A4 as_.length c4] 58));have HR2:=a_ hr2;have HR3:=a_ hr3;have HC3:=a_ hc3;have HR4:=a_ hr4;clear hr2 hr3 hc3 hr4;unfold spec_l2Shape.f at h
 obtain ⟨g,hg,h⟩:=Option.bind_eq_some_iff.1 h;have HG:=a_ hg;clear hg;cases g with
 | false=>
  rw [if_neg (by simp)] at h;cases h;go_enter Tryz.func69,Tryz.ntmps69;go_wp2_with (go_at_call 87;refine (spec_l1GoodSym.calls k nm false _ HG.out).mono ?_;rintro e w1 ⟨rfl,hd⟩;have HB1:Aside0 (Below w.heap.size w w1):=⟨below_step HB.out hd.below⟩;clear hd);go_ret;exact ⟨rfl,HB1.out⟩
 | true=>
 rw [if_pos rfl] at h;by_cases c1:6<ps.length
 ·rw [if_pos c1] at h;cases h;have q1:decide ((6:Int)<(ps.length:Int))=true:=decide_eq_true (by omega)
  clear c1;go_enter Tryz.func69,Tryz.ntmps69;go_wp2_with (go_at_call 87;refine (spec_l1GoodSym.calls k nm true _ HG.out).mono ?_;rintro e w1 ⟨rfl,hd⟩;have HB1:Aside0 (Below w.heap.size w w1):=⟨below_step HB.out hd.below⟩;have BK1:=a_ (blk_below BK.out hd.below);have ha0:=(blk_cell BK1.out 0).trans rfl;have ha1:=(blk_cell BK1.out 1).trans rfl;have ha2:=(blk_cell BK1.out 2).trans rfl;have ha3:=(blk_cell BK1.out 3).trans rfl;have ha4:=(blk_cell BK1.out 4).trans rfl;simp only [List.getElem?_toArray,List.getElem?_cons_zero,List.getElem?_cons_succ] at ha0 ha1 ha2 ha3 ha4;clear hd);go_ret;exact ⟨rfl,HB1.out⟩
 rw [if_neg c1] at h;have q1:decide ((6:Int)<(ps.length:Int))=false:=decide_eq_false (by omega)
 by_cases c2:8<as_.length
 ·rw [if_pos c2] at h;cases h;have q2:decide ((8:Int)<(as_.length:Int))=true:=decide_eq_true (by omega)
  clear c1 c2;go_enter Tryz.func69,Tryz.ntmps69;go_wp2_with (go_at_call 87;refine (spec_l1GoodSym.calls k nm true _ HG.out).mono ?_;rintro e w1 ⟨rfl,hd⟩;have HB1:Aside0 (Below w.heap.size w w1):=⟨below_step HB.out hd.below⟩;have BK1:=a_ (blk_below BK.out hd.below);have ha0:=(blk_cell BK1.out 0).trans rfl;have ha1:=(blk_cell BK1.out 1).trans rfl;have ha2:=(blk_cell BK1.out 2).trans rfl;have ha3:=(blk_cell BK1.out 3).trans rfl;have ha4:=(blk_cell BK1.out 4).trans rfl;simp only [List.getElem?_toArray,List.getElem?_cons_zero,List.getElem?_cons_succ] at ha0 ha1 ha2 ha3 ha4;clear hd);go_ret;exact ⟨rfl,HB1.out⟩
 rw [if_neg c2] at h;have q2:decide ((8:Int)<(as_.length:Int))=false:=decide_eq_false (by omega)
 by_cases c3:60<es.length
 ·rw [if_pos c3] at h;cases h;have q3:decide ((60:Int)<(es.length:Int))=true:=decide_eq_true (by omega)
  clear c1 c2 c3;go_enter Tryz.func69,Tryz.ntmps69;go_wp2_with (go_at_call 87;refine (spec_l1GoodSym.calls k nm true _ HG.out).mono ?_;rintro e w1 ⟨rfl,hd⟩;have HB1:Aside0 (Below w.heap.size w w1):=⟨below_step HB.out hd.below⟩;have BK1:=a_ (blk_below BK.out hd.below);have ha0:=(blk_cell BK1.out 0).trans rfl;have ha1:=(blk_cell BK1.out 1).trans rfl;have ha2:=(blk_cell BK1.out 2).trans rfl;have ha3:=(blk_cell BK1.out 3).trans rfl;have ha4:=(blk_cell BK1.out 4).trans rfl;simp only [List.getElem?_toArray,List.getElem?_cons_zero,List.getElem?_cons_succ] at ha0 ha1 ha2 ha3 ha4;clear hd);go_ret;exact ⟨rfl,HB1.out⟩
 rw [if_neg c3] at h;have q3:decide ((60:Int)<(es.length:Int))=false:=decide_eq_false (by omega)
 have C1:Aside0 (ps.length≤6):=⟨by omega⟩
 have C2:Aside0 (as_.length≤8):=⟨by omega⟩
 have C3:Aside0 (es.length≤60):=⟨by omega⟩
 clear c1 c2 c3;obtain ⟨p,hp,h⟩:=Option.bind_eq_some_iff.1 h;have HP:=a_ hp;have HH:=a_ h;clear hp h;go_enter Tryz.func69,Tryz.ntmps69;go_wp2_with (go_at_call 87;refine (spec_l1GoodSym.calls k nm true _ HG.out).mono ?_;rintro e w1 ⟨rfl,hd⟩;have HB1:Aside0 (Below w.heap.size w w1):=⟨below_step HB.out hd.below⟩;have BK1:=a_ (blk_below BK.out hd.below);have ha0:=(blk_cell BK1.out 0).trans rfl;have ha1:=(blk_cell BK1.out 1).trans rfl;have ha2:=(blk_cell BK1.out 2).trans rfl;have ha3:=(blk_cell BK1.out 3).trans rfl;have ha4:=(blk_cell BK1.out 4).trans rfl;simp only [List.getElem?_toArray,List.getElem?_cons_zero,List.getElem?_cons_succ] at ha0 ha1 ha2 ha3 ha4;clear hd);go_loopg [34] ps.length (fun gg v34 wr=>∃i:Nat,i≤ps.length∧ps.length-i≤gg∧v34=.int .i64 (i:Int)∧Aside0 (spec_l2Shape.p k (ps.drop i) i=some p)∧Aside0 (Below w.heap.size w wr)∧Aside0 (wr.heap[w.heap.size]?=some (.cells #[.string nm,.int .i64 sa,.slice A2 ps.length c2,.slice A3 es.length c3,.slice A4 as_.length c4] 58 (0,0))))
 case atStart=>exact ⟨0,Nat.zero_le _,Nat.le_refl _,rfl,HP,HB1,BK1⟩
 obtain ⟨i,hi,hgg,rfl,HP2,HB2,BK2⟩:=hrel;by_cases hlt:i<ps.length
 ·have hz:(i:Int)<(ps.length:Int):=by omega
  have hz0:(0:Int)≤(i:Int):=by omega
  obtain ⟨ad,A5,c5,e0,hx0,hx1,hx2,hl5,hC5⟩:=at_T101 HR2.out (i:Int) hz0 hz;cases e0;replace hx0:=(HB2.out.cell (World.block_lt_of_cell? w _ hx0)).trans hx0;replace hx1:=(HB2.out.cell (World.block_lt_of_cell? w _ hx1)).trans hx1;replace hx2:=(HB2.out.cell (World.block_lt_of_cell? w _ hx2)).trans hx2;simp only [Int.toNat_natCast] at hx0 hx1 hx2;have HC5:=a_ hC5;have HL5:=a_ hl5;clear hC5 hl5;have hst:=l2_p_cons k ps i hlt p HP2.out;generalize rd_T101 ps (i:Int)=p5 at *;obtain ⟨g5,hg5,hst⟩:=Option.bind_eq_some_iff.1 hst;have HG5:=a_ hg5;clear hg5;cases g5 with
  | false=>
   rw [if_neg (by simp)] at hst;have hpi:=Option.some.inj hst;have hrr:=HH.out;rw [if_neg (by omega)] at hrr;have hr2:=Option.some.inj hrr;subst hr2;have HPI:Aside0 ((i:Int)+1=p):=⟨hpi⟩
   clear hst hpi hrr;go_wp2_with (go_at_call 88;refine (spec_l2GoodPat.calls k p5.f0 p5.f1 A5 c5 p5.f2 false _ (Kd.C_below HC5.out (by repeat (first|exact HB2.out|apply below_alloc))) HL5.out HG5.out).mono ?_;rintro e w3 ⟨rfl,hd⟩;have HB3:Aside0 (Below w.heap.size w w3):=⟨below_step (by repeat (first|exact HB2.out|apply below_alloc)) hd⟩;have BK3:=a_ (blk_below (g:=w.heap.size) (blk_alloc BK2.out _) hd);clear hd);go_ret;exact ⟨by rw [←HPI.out,show wrap64 ((i:Int)+1)=(i:Int)+1 by unfold wrap64;have:=C1.out;omega];rfl,HB3.out⟩
  | true=>
   rw [if_pos rfl] at hst;have HST:=a_ hst;clear hst;go_wp2_with (go_at_call 88;refine (spec_l2GoodPat.calls k p5.f0 p5.f1 A5 c5 p5.f2 true _ (Kd.C_below HC5.out (by repeat (first|exact HB2.out|apply below_alloc))) HL5.out HG5.out).mono ?_;rintro e w3 ⟨rfl,hd⟩;have HB3:Aside0 (Below w.heap.size w w3):=⟨below_step (by repeat (first|exact HB2.out|apply below_alloc)) hd⟩;have BK3:=a_ (blk_below (g:=w.heap.size) (blk_alloc BK2.out _) hd);clear hd);go_roundg (ps.length-(i+1))
   case measure=>omega
   case rel=>exact ⟨i+1,by omega,by omega,by rw [show wrap64 ((i:Int)+1)=((i+1:Nat):Int) by unfold wrap64;have:=C1.out;omega],HST,HB3,BK3⟩
 ·have hil:i=ps.length:=by omega
  subst hil;have e0:=HP2.out;rw [List.drop_length] at e0;unfold spec_l2Shape.p at e0
  have e1:=Option.some.inj e0;subst e1;have h2:=HH.out;rw [if_pos rfl] at h2;obtain ⟨ee,he,h2⟩:=Option.bind_eq_some_iff.1 h2;have HE:Aside0 (spec_l2Shape.e k es (es.length-0) 0=some ee):=⟨he⟩
  have HH2:=a_ h2;clear he h2 e0 HP2 HH HP;have ha0:=(blk_cell BK2.out 3).trans rfl;simp only [List.getElem?_toArray,List.getElem?_cons_zero,List.getElem?_cons_succ] at ha0;go_wp2;go_loopg [48] es.length (fun gg v48 wr=>∃i:Nat,i≤es.length∧es.length-i≤gg∧v48=.int .i64 (i:Int)∧Aside0 (spec_l2Shape.e k es (es.length-i) i=some ee)∧Aside0 (Below w.heap.size w wr)∧Aside0 (wr.heap[w.heap.size]?=some (.cells #[.string nm,.int .i64 sa,.slice A2 ps.length c2,.slice A3 es.length c3,.slice A4 as_.length c4] 58 (0,0))))
  case atStart=>exact ⟨0,Nat.zero_le _,Nat.le_refl _,rfl,HE,HB2,BK2⟩
  obtain ⟨i,hi,hgg,rfl,HE2,HB4,BK4⟩:=hrel;have hb0:=(blk_cell BK4.out 3).trans rfl;simp only [List.getElem?_toArray,List.getElem?_cons_zero,List.getElem?_cons_succ] at hb0;by_cases hlt:i<es.length
  ·have hz:(i:Int)<(es.length:Int):=by omega
   have hst:=l2_e_cons k es es.length i hlt ee HE2.out;obtain ⟨g5,hg5,hst⟩:=Option.bind_eq_some_iff.1 hst;have HG5:=a_ hg5;clear hg5;cases g5 with
   | false=>
    rw [if_neg (by simp)] at hst;have hpi:=Option.some.inj hst;have hrr:=HH2.out;rw [if_neg (by omega)] at hrr;have hr2:=Option.some.inj hrr;subst hr2;have HPI:Aside0 ((i:Int)+1=ee):=⟨hpi⟩
    clear hst hpi hrr;go_wp2_with (go_at_call 89;refine (spec_l2GoodExpr.calls k A3 c3 es (i:Int) false _ (Kd.C_below HR3.out (by repeat (first|exact HB4.out|apply below_alloc))) HC3.out HG5.out).mono ?_;rintro e w3 ⟨rfl,hd⟩;have HB5:Aside0 (Below w.heap.size w w3):=⟨below_step HB4.out hd⟩;have BK5:=a_ (blk_below (g:=w.heap.size) BK4.out hd);clear hd);go_ret;exact ⟨by rw [←HPI.out,show wrap64 ((i:Int)+1)=(i:Int)+1 by unfold wrap64;have:=C3.out;omega];rfl,HB5.out⟩
   | true=>
    rw [if_pos rfl] at hst;have HST:=a_ hst;clear hst;go_wp2_with (go_at_call 89;refine (spec_l2GoodExpr.calls k A3 c3 es (i:Int) true _ (Kd.C_below HR3.out (by repeat (first|exact HB4.out|apply below_alloc))) HC3.out HG5.out).mono ?_;rintro e w3 ⟨rfl,hd⟩;have HB5:Aside0 (Below w.heap.size w w3):=⟨below_step HB4.out hd⟩;have BK5:=a_ (blk_below (g:=w.heap.size) BK4.out hd);clear hd);go_roundg (es.length-(i+1))
    case measure=>omega
    case rel=>exact ⟨i+1,by omega,by omega,by rw [show wrap64 ((i:Int)+1)=((i+1:Nat):Int) by unfold wrap64;have:=C3.out;omega],HST,HB5,BK5⟩
  ·have hil:i=es.length:=by omega
   subst hil;have e0:=HE2.out;rw [Nat.sub_self] at e0;unfold spec_l2Shape.e at e0
   have e1:=Option.some.inj e0;subst e1;have h3:=HH2.out;rw [if_pos rfl] at h3;obtain ⟨aa,haa,h3⟩:=Option.bind_eq_some_iff.1 h3;have HA:Aside0 (spec_l2Shape.a k es (as_.drop 0) 0 0=some aa):=⟨haa⟩
   have HH3:=a_ h3;clear haa h3 e0 HE2 HH2 HE;have hb4:=(blk_cell BK4.out 4).trans rfl;simp only [List.getElem?_toArray,List.getElem?_cons_zero,List.getElem?_cons_succ] at hb4;obtain ⟨wq,hwq⟩:∃x,x=wr:=⟨_,rfl⟩;subst hwq;have hs1:w.heap.size+1≤wq.heap.size:=lt_of_block BK4.out
   have HS1:=a_ hs1;have hb5:=(blk_cell (blk_alloc BK4.out (.cells #[.int .i64 0] 3)) 4).trans rfl;simp only [List.getElem?_toArray,List.getElem?_cons_zero,List.getElem?_cons_succ] at hb5;go_wp2;go_loopg [62] as_.length (fun gg v62 wr=>∃(i:Nat) (m:Int),i≤as_.length∧as_.length-i≤gg∧v62=.int .i64 (i:Int)∧Aside0 (spec_l2Shape.a k es (as_.drop i) i m=some aa)∧Aside0 (Below w.heap.size w wr)∧Aside0 (wr.heap[w.heap.size]?=some (.cells #[.string nm,.int .i64 sa,.slice A2 ps.length c2,.slice A3 es.length c3,.slice A4 as_.length c4] 58 (0,0)))∧Aside0 (wr.heap[wq.heap.size]?=some (.cells #[.int .i64 m] 3 (0,0))))
   case atStart=>exact ⟨0,0,Nat.zero_le _,Nat.le_refl _,rfl,HA,⟨below_alloc HB4.out _⟩,⟨blk_alloc BK4.out _⟩,⟨blk_new wq _⟩⟩
   obtain ⟨i,m,hi,hgg,rfl,HA2,HB6,BK6,BN6⟩:=hrel;have hd0:=(blk_cell BK6.out 0).trans rfl;have hd1:=(blk_cell BK6.out 1).trans rfl;have hd2:=(blk_cell BK6.out 2).trans rfl;have hd3:=(blk_cell BK6.out 3).trans rfl;have hd4:=(blk_cell BK6.out 4).trans rfl;simp only [List.getElem?_toArray,List.getElem?_cons_zero,List.getElem?_cons_succ] at hd0 hd1 hd2 hd3 hd4;have hn6:=cell_of_one BN6.out;have hs6:w.heap.size+1≤wr.heap.size:=lt_of_block BK6.out
   have hs7:wq.heap.size+1≤wr.heap.size:=lt_of_block BN6.out
   by_cases hlt:i<as_.length
   ·have hz:(i:Int)<(as_.length:Int):=by omega
    have hz0:(0:Int)≤(i:Int):=by omega
    obtain ⟨ad,A7,c7,e0,hx0,hx1,hx2,hx3,hl7,hC7⟩:=at_T108 HR4.out (i:Int) hz0 hz;cases e0;replace hx0:=(HB6.out.cell (World.block_lt_of_cell? w _ hx0)).trans hx0;replace hx1:=(HB6.out.cell (World.block_lt_of_cell? w _ hx1)).trans hx1;replace hx2:=(HB6.out.cell (World.block_lt_of_cell? w _ hx2)).trans hx2;replace hx3:=(HB6.out.cell (World.block_lt_of_cell? w _ hx3)).trans hx3;simp only [Int.toNat_natCast] at hx0 hx1 hx2 hx3;have HC7:=a_ hC7;have hst:=l2_a_cons k es as_ i m hlt aa HA2.out;clear hC7 hl7;generalize rd_T108 as_ (i:Int)=a7 at *;have BKA:=blk_alloc BK6.out (.cells #[.int .i64 a7.f0,.int .i64 a7.f1,.string a7.f2,.slice A7 a7.f3.length c7] 108);have he0:=(blk_cell BKA 0).trans rfl;have he1:=(blk_cell BKA 1).trans rfl;have he2:=(blk_cell BKA 2).trans rfl;have he3:=(blk_cell BKA 3).trans rfl;have he4:=(blk_cell BKA 4).trans rfl;simp only [List.getElem?_toArray,List.getElem?_cons_zero,List.getElem?_cons_succ] at he0 he1 he2 he3 he4;clear BKA;obtain ⟨⟨g7,m7⟩,hg7,hst⟩:=Option.bind_eq_some_iff.1 hst;have HG7:=a_ hg7;clear hg7;cases g7 with
    | false=>
     rw [if_neg (by simp)] at hst;have hpi:=Option.some.inj hst;have hrr:=HH3.out;rw [←hpi,if_neg (by show ¬((i:Int)+1=-1);omega)] at hrr;have hr2:=Option.some.inj hrr;have HPI:Aside0 ((i:Int)+1=r):=⟨hr2⟩
     clear hst hpi hrr hr2;go_wp2_with (go_at_call 90;refine (spec_l2GoodAct.calls k nm sa A2 ps.length c2 A3 c3 es (some ad) as_.length c4 a7.f0 a7.f1 a7.f2 A7 c7 a7.f3 wq.heap.size m m7 false w _ (below_alloc HB6.out _) HR3.out HC3.out HC7.out (blk_alloc BN6.out _) (Nat.le_of_succ_le HS1.out) HG7.out).mono ?_;rintro e w7 ⟨rfl,hbn,hgr,hsz⟩;have HB8:Aside0 (Below w.heap.size w w7):=⟨(below_alloc HB6.out _).grown hgr (below_alloc HB6.out _).size (by intro q e;injection e with e;have:=HS1.out;omega)⟩;have BK8:=a_ ((hgr.block w.heap.size (lt_of_block (blk_alloc BK6.out _)) (by intro e;injection e with e;have:=HS1.out;omega)).trans (blk_alloc BK6.out _));have BN8:=a_ hbn;clear hbn hgr hsz);go_ret;exact ⟨by rw [←HPI.out,show wrap64 ((i:Int)+1)=(i:Int)+1 by unfold wrap64;have:=C2.out;omega];rfl,HB8.out⟩
    | true=>
     rw [if_pos rfl] at hst;have HST:=a_ hst;clear hst;go_wp2_with (go_at_call 90;refine (spec_l2GoodAct.calls k nm sa A2 ps.length c2 A3 c3 es (some ad) as_.length c4 a7.f0 a7.f1 a7.f2 A7 c7 a7.f3 wq.heap.size m m7 true w _ (below_alloc HB6.out _) HR3.out HC3.out HC7.out (blk_alloc BN6.out _) (Nat.le_of_succ_le HS1.out) HG7.out).mono ?_;rintro e w7 ⟨rfl,hbn,hgr,hsz⟩;have HB8:Aside0 (Below w.heap.size w w7):=⟨(below_alloc HB6.out _).grown hgr (below_alloc HB6.out _).size (by intro q e;injection e with e;have:=HS1.out;omega)⟩;have BK8:=a_ ((hgr.block w.heap.size (lt_of_block (blk_alloc BK6.out _)) (by intro e;injection e with e;have:=HS1.out;omega)).trans (blk_alloc BK6.out _));have BN8:=a_ hbn;clear hbn hgr hsz);go_roundg (as_.length-(i+1))
     case measure=>omega
     case rel=>exact ⟨i+1,m7,by omega,by omega,by rw [show wrap64 ((i:Int)+1)=((i+1:Nat):Int) by unfold wrap64;have:=C2.out;omega],HST,HB8,BK8,BN8⟩
   ·have hil:i=as_.length:=by omega
    subst hil;have e0:=HA2.out;rw [List.drop_length] at e0;unfold spec_l2Shape.a at e0
    have e1:=Option.some.inj e0;subst e1;have h4:=HH3.out;rw [if_pos rfl] at h4;clear e0 HA2 HH3 HA;by_cases d1:m=(es.length:Int)
    ·subst d1;rw [if_pos rfl] at h4;cases h4;go_wp2;go_ret;exact ⟨rfl,HB6.out⟩
    ·rw [if_neg d1] at h4;have h5:=Option.some.inj h4;subst h5;have q7:(m==(es.length:Int))=false:=by simpa using d1
     have q8:(m != (es.length:Int))=true:=by simpa using d1
     clear d1 h4;go_wp2;go_ret;exact ⟨by rw [show wrap64 ((as_.length:Int)+1)=(as_.length:Int)+1 by unfold wrap64;have:=C2.out;omega];rfl,HB6.out⟩
theorem spec_l2Shape.calls (k:Nat) (a0_0:ByteArray) (a0_1:Int) (A0_2:Option Addr) (c0_2:Nat) (l0_2:List S101) (A0_3:Option Addr) (c0_3:Nat) (l0_3:List S106) (A0_4:Option Addr) (c0_4:Nat) (l0_4:List S108) (r:Int) (w:World) (hr0_2:Kd.C k101 w A0_2 l0_2.length l0_2) (hc0_2:l0_2.length≤c0_2) (hr0_3:Kd.C k106 w A0_3 l0_3.length l0_3) (hc0_3:l0_3.length≤c0_3) (hr0_4:Kd.C k108 w A0_4 l0_4.length l0_4) (hc0_4:l0_4.length≤c0_4) (h:spec_l2Shape.f k a0_0 a0_1 l0_2 l0_3 l0_4=some r):
  Calls Tryz.prog 69 #[.agg #[.string a0_0,.int .i64 a0_1,.slice A0_2 l0_2.length c0_2,.slice A0_3 l0_3.length c0_3,.slice A0_4 l0_4.length c0_4]] w fun e w'=>e=.returned (.int .i64 r)∧Below w.heap.size w w':=
 spec_l2Shape.walk k a0_0 a0_1 A0_2 c0_2 l0_2 A0_3 c0_3 l0_3 A0_4 c0_4 l0_4 r w hr0_2 hr0_3 hc0_3 hr0_4 h
end Go.Proofs.YtejjlkbbnhpbdaaGreat.P
namespace Go.Proofs.YtejjlkbbnhpbdaaGreat.P
open Go.Proofs.YtejjlkbbnhpbdaaGreatX
open Go.RowKit Go.Proofs.YtejjlkbbnhpbdaaGreatW.PrintWords Go.Proofs.YtejjlkbbnhpbdaaGreatW.PrintLast Go.Proofs.YtejjlkbbnhpbdaaGreatW.PrintMore
attribute [local go_sem] max2_int min2_int max_two min_two max_three min_three max_four min_four
set_option linter.unusedVariables false
set_option linter.unusedSimpArgs false
def spec_l2Positive.l0:Nat→Int→List (S101)→Int→Int→Option (Int)
 | 0,_,_,_,_=>none
 | k+1,x3,x7,x8,x9=>if x9<x8 then (if 0≤x9 then (if x9<(x7.length:Int) then (if ((rd_T101 x7 x9).f0=true) then (spec_l2Positive.l0 k x3 x7 x8 (wrap64 (x9+1))) else (spec_l2Positive.l0 k (wrap64 (x3+1)) x7 x8 (wrap64 (x9+1)))) else (none)) else (none)) else (some x3)
def spec_l2Positive.f (k:Nat) (a0_0:ByteArray) (a0_1:Int) (l0_2:List (S101)) (l0_3:List (S106)) (l0_4:List (S108)):Option (Int):=spec_l2Positive.l0 k 0 l0_2 (l0_2.length:Int) 0
theorem spec_l2Positive.mono_l:∀k,(∀y0 y1 y2 y3,LeO (spec_l2Positive.l0 k y0 y1 y2 y3) (spec_l2Positive.l0 (k+1) y0 y1 y2 y3))
 | 0=>fun _ _ _ _ r h=>by simp [spec_l2Positive.l0] at h
 | k+1=>by
  have ih0:=spec_l2Positive.mono_l k
  ·intro y0 y1 y2 y3;unfold spec_l2Positive.l0
   repeat' with_reducible first|apply ih0|apply LeO.refl|apply LeO.none|refine LeO.ite ?_ ?_|refine LeO.bind ?_ (fun _=>?_)
theorem spec_l2Positive.mono:∀a0 a1 a2 a3 a4 k,LeO (spec_l2Positive.f k a0 a1 a2 a3 a4) (spec_l2Positive.f (k+1) a0 a1 a2 a3 a4):=by
 intro a0 a1 a2 a3 a4 k;have ih0:=spec_l2Positive.mono_l k;unfold spec_l2Positive.f
 repeat' with_reducible first|apply ih0|apply LeO.refl|apply LeO.none|refine LeO.ite ?_ ?_|refine LeO.bind ?_ (fun _=>?_)
set_option maxHeartbeats 8000000 in
set_option maxRecDepth 100000 in
theorem spec_l2Positive.calls (k:Nat) (a0_0:ByteArray) (a0_1:Int) (A0_2:Option Addr) (c0_2:Nat) (l0_2:List (S101)) (A0_3:Option Addr) (c0_3:Nat) (l0_3:List (S106)) (A0_4:Option Addr) (c0_4:Nat) (l0_4:List (S108)) (r:Int) (w:World) (hr0_2:Kd.C k101 w A0_2 l0_2.length l0_2) (hc0_2:l0_2.length≤c0_2) (hr0_3:Kd.C k106 w A0_3 l0_3.length l0_3) (hc0_3:l0_3.length≤c0_3) (hr0_4:Kd.C k108 w A0_4 l0_4.length l0_4) (hc0_4:l0_4.length≤c0_4) (h:spec_l2Positive.f k a0_0 a0_1 l0_2 l0_3 l0_4=some r):
  Calls Tryz.prog 70 #[.agg #[.string a0_0,.int .i64 a0_1,.slice A0_2 l0_2.length c0_2,.slice A0_3 l0_3.length c0_3,.slice A0_4 l0_4.length c0_4]] w fun e w'=>e=.returned (.int .i64 r)∧Below w.heap.size w w':=by
 have hu58:=Tryz.underlying58;have hu101:=Tryz.underlying101;have HR0_2:=a_ hr0_2;have HC0_2:=a_ hc0_2;clear hr0_2 hc0_2;have HR0_3:=a_ hr0_3;have HC0_3:=a_ hc0_3;clear hr0_3 hc0_3;have HR0_4:=a_ hr0_4;have HC0_4:=a_ hc0_4;clear hr0_4 hc0_4;have HB:=a_ (Below.refl w.heap.size w);have H:(spec_l2Positive.l0 k 0 l0_2 (l0_2.length:Int) 0)=some r:=h
 clear h;have H':=a_ H;clear H;go_enter Tryz.func70,Tryz.ntmps70;go_wp2_with (first|((with_reducible refine gate_dst (N:=1) rfl ?_);refine bh_ 1 #[.string a0_0,.int .i64 a0_1,.slice A0_2 l0_2.length c0_2,.slice A0_3 l0_3.length c0_3,.slice A0_4 l0_4.length c0_4] 58 HB ?_;intro gb173 hg wx BK173 GE173 hb;replace HB:=ms_ HB hb;clear hb hg;replace hz173:=cz5 BK173));go_loopg [3,9] k (fun kq v3 v9 w'=>∃(x3_1:Int) (x9_1:Int),v3=.int .i64 x3_1∧v9=.int .i64 x9_1∧Aside0 (spec_l2Positive.l0 kq x3_1 l0_2 (l0_2.length:Int) x9_1=some r)∧Aside0 (kq≤k)∧Aside0 (w'.heap[gb173]?=some (.cells #[.string a0_0,.int .i64 a0_1,(.slice A0_2 l0_2.length c0_2),(.slice A0_3 l0_3.length c0_3),(.slice A0_4 l0_4.length c0_4)] 58 (0,0)))∧Aside0 (Below w.heap.size w w'))
 case atStart=>exact ⟨(0),(0),mq_,mq_,H',⟨Nat.le_refl _⟩,⟨mc_ BK173⟩,⟨mb_ HB⟩⟩
 clear H';(try clear hz173);obtain ⟨x3_1,x9_1,rfl,rfl,HA,HK1,BK173,HB⟩:=hrel;obtain _|k1:=gk
 ·exact absurd HA.out (by simp [spec_l2Positive.l0])
 have H:=HA.out;clear HA;simp only [spec_l2Positive.l0] at H;by_cases c4:x9_1<(l0_2.length:Int)
 ·rw [if_pos c4] at H;have c4b0:=ct_ c4;clear c4;by_cases c5:0≤x9_1
  case neg=>
   rw [if_neg c5] at H;cases H
  rw [if_pos c5] at H;have c5b0:=ct_ c5;clear c5;by_cases c6:x9_1<(l0_2.length:Int)
  case neg=>
   rw [if_neg c6] at H;cases H
  rw [if_pos c6] at H;have c6b0:=ct_ c6;clear c6;obtain ⟨bq7,hbq7⟩:∃b_:Bool,b_=((rd_T101 l0_2 x9_1).f0):=⟨_,rfl⟩;replace H:(if (bq7=true) then (spec_l2Positive.l0 k1 x3_1 l0_2 (l0_2.length:Int) (wrap64 (x9_1+1))) else (spec_l2Positive.l0 k1 (wrap64 (x3_1+1)) l0_2 (l0_2.length:Int) (wrap64 (x9_1+1))))=some r:=by rw [←hbq7] at H;exact H
  have Nbq7:=a_ hbq7;clear hbq7;by_cases c8:(bq7=true)
  ·subst c8;rw [if_pos rfl] at H;have H':=a_ H;clear H;have p174:0≤(x9_1:Int):=md_
   have q174:x9_1<(l0_2.length:Int):=md_
   obtain ⟨ad174,A174_2,c174_2,e174,hx174_0,hx174_1,hx174_2,hl174_2,hi174_2⟩:=at_T101 HR0_2.out x9_1 p174 q174;(try rw [←Nbq7.out] at hx174_0);cases e174;replace hx174_0:=mx_ HB hx174_0;replace hx174_1:=mx_ HB hx174_1;replace hx174_2:=mx_ HB hx174_2;have HR174_2:=a_ hi174_2;have HC174_2:=a_ hl174_2;clear hi174_2 hl174_2;replace p174:=eq_true p174;replace q174:=eq_true q174;go_wp2_with (first|((with_reducible refine gate_dst (N:=5) rfl ?_);refine bh_ 5 #[.bool false,.string (⟨#[]⟩:ByteArray),.slice none 0 0] 101 HB ?_;intro gb175 hg wx BK175 GE175 hb;obtain ⟨NB173_175,NB175_173⟩:=mn_ BK173 hg;replace BK173:=mk_ BK173 hb;replace HB:=ms_ HB hb;clear hb hg;have nNB175_173:=NB175_173.out;have nNB173_175:=NB173_175.out;replace hz175:=cz3 BK175));go_roundg k1
   case measure=>
    have:=HK1.out
    omega
   case rel=>exact ⟨(x3_1),(wrap64 (x9_1+1)),mq_,mq_,H',⟨by have:=HK1.out;omega⟩,⟨mc_ BK173⟩,⟨mb_ HB⟩⟩
  ·replace c8:=Bool.eq_false_iff.mpr c8;subst c8;rw [if_neg (show ¬(false=true) by decide)] at H;have H':=a_ H;clear H;have p174:0≤(x9_1:Int):=md_
   have q174:x9_1<(l0_2.length:Int):=md_
   obtain ⟨ad174,A174_2,c174_2,e174,hx174_0,hx174_1,hx174_2,hl174_2,hi174_2⟩:=at_T101 HR0_2.out x9_1 p174 q174;(try rw [←Nbq7.out] at hx174_0);cases e174;replace hx174_0:=mx_ HB hx174_0;replace hx174_1:=mx_ HB hx174_1;replace hx174_2:=mx_ HB hx174_2;have HR174_2:=a_ hi174_2;have HC174_2:=a_ hl174_2;clear hi174_2 hl174_2;replace p174:=eq_true p174;replace q174:=eq_true q174;go_wp2_with (first|((with_reducible refine gate_dst (N:=5) rfl ?_);refine bh_ 5 #[.bool false,.string (⟨#[]⟩:ByteArray),.slice none 0 0] 101 HB ?_;intro gb175 hg wx BK175 GE175 hb;obtain ⟨NB173_175,NB175_173⟩:=mn_ BK173 hg;replace BK173:=mk_ BK173 hb;replace HB:=ms_ HB hb;clear hb hg;have nNB175_173:=NB175_173.out;have nNB173_175:=NB173_175.out;replace hz175:=cz3 BK175));go_roundg k1
   case measure=>
    have:=HK1.out
    omega
   case rel=>exact ⟨(wrap64 (x3_1+1)),(wrap64 (x9_1+1)),mq_,mq_,H',⟨by have:=HK1.out;omega⟩,⟨mc_ BK173⟩,⟨mb_ HB⟩⟩
 ·rw [if_neg c4] at H;have c4b0:=cf_ c4;clear c4;obtain rfl:=oi_ H;go_wp2;go_ret;exact ⟨me_,mb_ HB⟩
end Go.Proofs.YtejjlkbbnhpbdaaGreat.P
