/- The row of the law FnExactPrintRules: for every input the call returns true, and each argument reads behind it as it read before; no condition of ours. -/
import Derived.IntWalk
import Derived.OneCell
import Derived.RangeFuncBox
import Derived.BigQuiet
import Derived.Deep.QuietTactic
import Derived.Test.YtahambloheoebaaGreatDoorProg
import Derived.Maps.OwnSet
import Derived.Maps.Views
import Derived.WalkKit
import Derived.Maps.RangeWalk
import Derived.Carry
import Derived.Shelf.Abstract
import Derived.Deep.LoopGhost
import Derived.Deep.Cut
import Derived.Shelf.Strings.BuilderK
import Derived.Test.YtahambloheoebaaGreatDoorQPr5
namespace Go.Proofs.YtahambloheoebaaGreatDoor.P
open Go.Proofs.YtahambloheoebaaGreatDoorX
open Go.RowKit Go.Proofs.YtahambloheoebaaGreatDoorW.PrintWords Go.Proofs.YtahambloheoebaaGreatDoorW.PrintLast Go.Proofs.YtahambloheoebaaGreatDoorW.PrintMore
attribute [local go_sem] max2_int min2_int max_two min_two max_three min_three max_four min_four
set_option linter.unusedVariables false
set_option linter.unusedSimpArgs false
open Go.Proofs.YtahambloheoebaaGreatDoorX
def TreesV (w:World) (b base:Nat) (vF vD:Value) (fs ds:List Int):Prop:=
 w.heap[b]?=some (.cells #[vF,vD] 214 (0,0))∧w.ownsRow base 3 1 vF fs.length (nums .i64 fs)∧w.ownsRow base 3 1 vD ds.length (nums .i64 ds)∧NeRow vF vD
def Trees (w:World) (b base:Nat) (fs ds:List Int):Prop:=∃vF vD,TreesV w b base vF vD fs ds
def KeepT (w w':World):Prop:=w.heap.size≤w'.heap.size∧∀(g:Nat) (t:TypeId) (cs:Array Value),t≠214→t≠3→w.heap[g]?=some (.cells cs t (0,0))→w'.heap[g]?=some (.cells cs t (0,0))
theorem KeepT.trans {a b c:World} (h:KeepT a b) (k:KeepT b c):KeepT a c:=⟨Nat.le_trans h.1 k.1,fun g t cs h1 h2 h3=>k.2 g t cs h1 h2 (h.2 g t cs h1 h2 h3)⟩
theorem KeepT.below {w w':World} (h:Below w.heap.size w w'):KeepT w w':=⟨h.size,fun _ _ _ _ _ h3=>blk_below h3 h⟩
theorem KeepT.grown {w w':World} {base n:Nat} {v:Value} {xs:List Value} (ho:w.ownsRow base 3 1 v n xs) (hg:w.grownBy w' v.ownBlock):KeepT w w':=
 ⟨hg.size,fun g t cs _ h2 h3=>blk_grown h3 hg (own_ne ho h3 (Ne.symm h2))⟩
theorem KeepT.set {w:World} {b:Nat} {cs:Array Value} (hb:w.heap[b]?=some (.cells cs 214 (0,0))) (j:Nat) (u:Value):KeepT w (w.setCell ⟨b,j,none⟩ u):=by
 refine ⟨by simp,fun g t cs' h1 h2 h3=>blk_far h3 (p:=⟨b,j,none⟩) ?_ u⟩;exact blk_ne h3 hb h1
theorem ev_new {a b:Nat} (h:a=b):Value.slice (some ⟨a,0,none⟩) 1 1=Value.slice (some ⟨b,0,none⟩) 1 1:=by rw [h]
theorem own_readsI {w:World} {base n c:Nat} {e:TypeId} {k:IntKind} {A:Option Addr} {xs:List Int} (h:w.ownsRow base e 1 (.slice A n c) n (nums k xs)):ReadsInt w k A n xs:=own_reads' h
theorem own_form {w:World} {base n:Nat} {e:TypeId} {size:Nat} {v:Value} {xs:List Value} (h:w.ownsRow base e size v n xs):∃A m c,v=.slice A m c∧Aside0 (m=n):=by
 obtain ⟨A,c,h⟩:=own_slice h;exact ⟨A,n,c,h,⟨rfl⟩⟩
theorem TreesV.below {w w':World} {b base:Nat} {vF vD:Value} {fs ds:List Int} (h:TreesV w b base vF vD fs ds) (hb:Below w.heap.size w w'):TreesV w' b base vF vD fs ds:=
 ⟨blk_below h.1 hb,pw_own_below h.2.1 hb,pw_own_below h.2.2.1 hb,h.2.2.2⟩
def exEq (x0 y0 x1 y1:Int) (x2 y2:ByteArray) (x3 y3 x4 y4:Int) (x5 y5:ByteArray) (x6 y6 x7 y7:Int):Bool:=
 x0==y0&&(x1==y1&&(x2.toList==y2.toList&&((x3==y3&&(x4==y4&&(x5.toList==y5.toList)))&&(x6==y6&&x7==y7))))
theorem eqExpr (d:Nat) (w:World) (x0 y0 x1 y1:Int) (x2 y2:ByteArray) (x3 y3 x4 y4:Int) (x5 y5:ByteArray) (x6 y6 x7 y7:Int):
  (Op.equalIn (d+3) 161 (.agg #[.int .i64 x0,.int .u8 x1,.string x2,.int .i64 x3,.int .i64 x4,.string x5,.int .i64 x6,.int .i64 x7]) (.agg #[.int .i64 y0,.int .u8 y1,.string y2,.int .i64 y3,.int .i64 y4,.string y5,.int .i64 y6,.int .i64 y7])).run Tryz.prog w=.ok (exEq x0 y0 x1 y1 x2 y2 x3 y3 x4 y4 x5 y5 x6 y6 x7 y7) w:=by
 unfold exEq
 refine eqA_of Tryz.underlying161 (by kernel_rfl) ?_;refine eqf_cons (by rfl) (by first|(go_simp;done)|(go_simp;rfl)) (by first|(go_simp;done)|(go_simp;rfl)) (by go_simp) ?_;refine eqf_cons (by rfl) (by first|(go_simp;done)|(go_simp;rfl)) (by first|(go_simp;done)|(go_simp;rfl)) (by go_simp) ?_;refine eqf_cons (by rfl) (by first|(go_simp;done)|(go_simp;rfl)) (by first|(go_simp;done)|(go_simp;rfl)) (by go_simp) ?_;refine eqf_cons (by rfl) (by first|(go_simp;done)|(go_simp;rfl)) (by first|(go_simp;done)|(go_simp;rfl)) (eqA80 d w _ _ _ _ _ _) ?_;refine eqf_cons (by rfl) (by first|(go_simp;done)|(go_simp;rfl)) (by first|(go_simp;done)|(go_simp;rfl)) (by go_simp) ?_;exact eqf_last (by rfl) (by first|(go_simp;done)|(go_simp;rfl)) (by first|(go_simp;done)|(go_simp;rfl)) (by go_simp)
def onlyC (e:S161):Bool:=exEq e.f0 0 e.f1 0 e.f2 ⟨#[]⟩ e.f3.f0 e.f3.f0 e.f3.f1 e.f3.f1 e.f3.f2 e.f3.f2 e.f4 0 e.f5 0
def onlyV (e:S161):Bool:=exEq e.f0 1 e.f1 0 e.f2 e.f2 e.f3.f0 0 e.f3.f1 0 e.f3.f2 ⟨#[]⟩ e.f4 0 e.f5 0
def onlyO (e:S161):Bool:=exEq e.f0 2 e.f1 e.f1 e.f2 ⟨#[]⟩ e.f3.f0 0 e.f3.f1 0 e.f3.f2 ⟨#[]⟩ e.f4 e.f4 e.f5 e.f5
def arIdx (c:Int):Int:=Lib.indexByte [43,45,42,47,37] c.toNat.toUInt8
def arithB (c:Int):Bool:=decide (0≤arIdx c)
theorem arIdx_calls (c:Int) (w:World):Calls Tryz.prog 179 #[.string (⟨#[43,45,42,47,37]⟩:ByteArray),.int .u8 c] w fun e w'=>e=.returned (.int .i64 (arIdx c))∧w'=w:=Tryz.strings_IndexByte _ c w
theorem mx_lt {a b:Int} (h:a<b):mx a b=b:=if_pos h
theorem mx_ge {a b:Int} (h:¬a<b):mx a b=a:=if_neg h
def impl_trees_grow.f (es:List S161) (fs ds:List Int):Option (Bool×List Int×List Int):=
 if es.length≤60∧fs.length<es.length∧ds.length=fs.length then
  (fun e:S161=>
   if e.f0=0 then some (onlyC e&&goodValueB e.f3,fs++[(fs.length:Int)],ds++[0])
   else if e.f0=1 then some (onlyV e&&goodSymB e.f2,fs++[(fs.length:Int)],ds++[0])
   else if e.f0=2 then
    if onlyO e=true∧arithB e.f1=true∧e.f5=(fs.length:Int)-1∧0≤e.f5∧0≤e.f4 then
     if 0≤rd fs e.f5∧rd fs e.f5≤64 then
      if e.f4=rd fs e.f5-1 then
       if e.f4<(fs.length:Int)∧0≤rd ds e.f4∧rd ds e.f4≤64∧0≤rd ds e.f5∧rd ds e.f5≤64 then
        some (decide (1+mx (rd ds e.f4) (rd ds e.f5)≤20),fs++[rd fs e.f4],ds++[1+mx (rd ds e.f4) (rd ds e.f5)])
       else none
      else some (false,fs++[(fs.length:Int)],ds++[0])
     else none
    else some (false,fs++[(fs.length:Int)],ds++[0])
   else some (false,fs++[(fs.length:Int)],ds++[0])) (rd_T161 es (fs.length:Int))
 else none
attribute [local go_sem high] eqExpr
theorem uf7f_2 {p:Prop} (h:p:=by
 exact ⟨by first|rfl|(simp;done),⟨_,_,blk_put B3.out 1 _ rfl,own_setCell F3.out (own_ne F3.out B3.out (by decide)) _,own_setCell O3.out (own_ne O3.out B3.out (by decide)) _,N3.out⟩,below_set HB3.out HWB.out,(K3.out).trans (KeepT.set B3.out _ _)⟩):p:=h
theorem uf7f_1 {p:Prop} (h:p:=by
 go_wp2_with (first
  | (at_builtin;refine print_append_num (w0:=w0) w0.heap.size rfl (.tmp 127) (.tmp 129) 43 3 .i64 8 rfl Tryz.underlying43 info3 (by decide) (.slice AF fs.length cF) fs ((fs.length:Int)) rfl (ev_new (by first|rfl|(simp;done))) OF.out HBQ.out (below_size HBQ.out) (by have:=L60.out;omega) ?_;intro v1 w1 ho1 hb1 hg1 hat1;obtain ⟨A1,m1,c1,ev1,M1⟩:=own_form ho1;subst ev1;have B1:=blk_grown BQ.out hg1 (own_ne OF.out BQ.out (by decide));have hd0:=(blk_cell B1 0).trans rfl;have hd1:=(blk_cell B1 1).trans rfl;have he0:=blk_frozen B1 0;have he1:=blk_frozen B1 1;simp only [List.getElem?_toArray,List.getElem?_cons_zero,List.getElem?_cons_succ] at hd0 hd1;have B2:=a_ (blk_put (cs':=#[.slice A1 m1 c1,.slice (AD) ds.length cD]) B1 0 (.slice A1 m1 c1) rfl);have F2:=a_ (own_setCell (p:=⟨b,0,none⟩) ho1 (own_ne ho1 B1 (by decide)) (.slice A1 m1 c1));have O1:=own_other OD.out hg1 (ne_other NE.out);have O2:=a_ (own_setCell (p:=⟨b,0,none⟩) O1 (own_ne O1 B1 (by decide)) (.slice A1 m1 c1));have HB2:=a_ (below_set (j:=0) (v:=.slice A1 m1 c1) hb1 HWB.out);have K2:=a_ ((KQ.out.trans (KeepT.grown OF.out hg1)).trans (KeepT.set B1 0 (.slice A1 m1 c1)));have N2:=a_ (ne_append NE.out hat1 OD.out);clear B1 O1 ho1 hb1 hg1 hat1)
  | (at_builtin;refine print_append_num (w0:=w0) w0.heap.size rfl (.tmp 137) (.tmp 139) 43 3 .i64 8 rfl Tryz.underlying43 info3 (by decide) (.slice AD ds.length cD) ds (0) rfl (ev_new (by first|rfl|(simp;done))) O2.out HB2.out (below_size HB2.out) (by have:=L60.out;omega) ?_;intro v2 w2 ho2 hb2 hg2 hat2;obtain ⟨A2,m2,c2,ev2,M2⟩:=own_form ho2;subst ev2;have B3:=a_ (blk_grown B2.out hg2 (own_ne O2.out B2.out (by decide)));have hg0:=(blk_cell B3.out 1).trans rfl;have hh1:=blk_frozen B3.out 1;simp only [List.getElem?_toArray,List.getElem?_cons_zero,List.getElem?_cons_succ] at hg0;have F3:=a_ (own_other F2.out hg2 (ne_other (ne_symm N2.out)));have O3:=a_ ho2;have HB3:=a_ hb2;have K3:=a_ (K2.out.trans (KeepT.grown O2.out hg2));have N3:=a_ (ne_append' N2.out hat2 F2.out);clear ho2 hb2 hg2 hat2))
 go_ret;exact uf7f_2):p:=h
theorem uf7f_0 {p:Prop} (h:p:=by
 go_enter Tryz.func151,Tryz.ntmps151;go_wp2;go_quiet ((go_at_call 179;exact Calls.quiet_of_same (arIdx_calls x.f1 _)))
 generalize hgq:(w.alloc (.cells #[.int .i64 2,.int .u8 x.f1,.string x.f2,.int .i64 x.f3.f0,.int .i64 x.f3.f1,.string x.f3.f2,.int .i64 x.f4,.int .i64 x.f5] 161)).drewN nq=wq;have BQ:=a_ (blk_at hgq (blk_alloc HT.out.1 (.cells #[.int .i64 2,.int .u8 x.f1,.string x.f2,.int .i64 x.f3.f0,.int .i64 x.f3.f1,.string x.f3.f2,.int .i64 x.f4,.int .i64 x.f5] 161)));have BX:=a_ (blk_at hgq (blk_new w (.cells #[.int .i64 2,.int .u8 x.f1,.string x.f2,.int .i64 x.f3.f0,.int .i64 x.f3.f1,.string x.f3.f2,.int .i64 x.f4,.int .i64 x.f5] 161)));have OF:=a_ (pw_own_below HT.out.2.1 (below_at hgq (below_alloc (Below.refl _ w) (.cells #[.int .i64 2,.int .u8 x.f1,.string x.f2,.int .i64 x.f3.f0,.int .i64 x.f3.f1,.string x.f3.f2,.int .i64 x.f4,.int .i64 x.f5] 161))));have OD:=a_ (pw_own_below HT.out.2.2.1 (below_at hgq (below_alloc (Below.refl _ w) (.cells #[.int .i64 2,.int .u8 x.f1,.string x.f2,.int .i64 x.f3.f0,.int .i64 x.f3.f1,.string x.f3.f2,.int .i64 x.f4,.int .i64 x.f5] 161))));have HBQ:=a_ (below_at hgq (below_alloc HB.out (.cells #[.int .i64 2,.int .u8 x.f1,.string x.f2,.int .i64 x.f3.f0,.int .i64 x.f3.f1,.string x.f3.f2,.int .i64 x.f4,.int .i64 x.f5] 161)));have KQ:=a_ (KeepT.below (below_at hgq (below_alloc (Below.refl _ w) (.cells #[.int .i64 2,.int .u8 x.f1,.string x.f2,.int .i64 x.f3.f0,.int .i64 x.f3.f1,.string x.f3.f2,.int .i64 x.f4,.int .i64 x.f5] 161))));clear hgq;have hq0z:=(blk_cell BQ.out 0).trans rfl;have hq1z:=(blk_cell BQ.out 1).trans rfl;have ha4z:=(blk_cell BX.out 6).trans rfl;have ha5z:=(blk_cell BX.out 7).trans rfl;simp only [List.getElem?_toArray,List.getElem?_cons_zero,List.getElem?_cons_succ] at hq0z hq1z ha4z ha5z;exact uf7f_1):p:=h
set_option maxHeartbeats 8000000 in
set_option maxRecDepth 100000 in
theorem impl_trees_grow.calls (A3:Option Addr) (c3:Nat) (es:List S161) (b:Nat) (fs ds fs' ds':List Int) (r:Bool) (w0 w:World) (hb:Below w0.heap.size w0 w) (hr:Kd.C k161 w0 A3 es.length es) (hc:es.length≤c3) (ht:Trees w b w0.heap.size fs ds) (hwb:w0.heap.size≤b) (h:impl_trees_grow.f es fs ds=some (r,fs',ds')):
  Calls Tryz.prog 151 #[.pointer (some ⟨b,0,none⟩),.slice A3 es.length c3] w fun e w'=>e=.returned (.bool r)∧Trees w' b w0.heap.size fs' ds'∧Below w0.heap.size w0 w'∧KeepT w w':=by
 have hu:=Tryz.underlying214;have hu1:=Tryz.underlying161;have hu2:=Tryz.underlying80;obtain ⟨vF,vD,ht⟩:=ht;have HT:=a_ ht;clear ht;have NE:=a_ HT.out.2.2.2;have HB:=a_ hb;have HR:=a_ hr;have HC:=a_ hc;have HWB:=a_ hwb;clear hb hr hc hwb;have hbl:=blk_lt HT.out.1;unfold impl_trees_grow.f at h
 by_cases c0:es.length≤60∧fs.length<es.length∧ds.length=fs.length
 case neg=>
  rw [if_neg c0] at h;cases h
 rw [if_pos c0] at h;obtain ⟨c60,hlt,hdl⟩:=c0;have L60:Aside0 (es.length≤60∧fs.length<es.length∧ds.length=fs.length):=⟨c60,hlt,hdl⟩
 have hz:(fs.length:Int)<(es.length:Int):=by omega
 have hz0:(0:Int)≤(fs.length:Int):=by omega
 have hz1:(fs.length:Int)≤60:=by omega
 clear hdl;obtain ⟨ad,e0,hx0,hx1,hx2,hx3,hx4,hx5,hx6,hx7⟩:=at_T161 HR.out (fs.length:Int) hz0 hz;cases e0;replace hx0:=(HB.out.cell (World.block_lt_of_cell? w0 _ hx0)).trans hx0;replace hx1:=(HB.out.cell (World.block_lt_of_cell? w0 _ hx1)).trans hx1;replace hx2:=(HB.out.cell (World.block_lt_of_cell? w0 _ hx2)).trans hx2;replace hx3:=(HB.out.cell (World.block_lt_of_cell? w0 _ hx3)).trans hx3;replace hx4:=(HB.out.cell (World.block_lt_of_cell? w0 _ hx4)).trans hx4;replace hx5:=(HB.out.cell (World.block_lt_of_cell? w0 _ hx5)).trans hx5;replace hx6:=(HB.out.cell (World.block_lt_of_cell? w0 _ hx6)).trans hx6;replace hx7:=(HB.out.cell (World.block_lt_of_cell? w0 _ hx7)).trans hx7;simp only [Int.toNat_natCast] at hx0 hx1 hx2 hx3 hx4 hx5 hx6 hx7;obtain ⟨AF,cF,eF⟩:=own_slice HT.out.2.1;subst eF;obtain ⟨AD,cD,eD⟩:=own_slice HT.out.2.2.1;subst eD;have hq0:=(blk_cell HT.out.1 0).trans rfl;have hq1:=(blk_cell HT.out.1 1).trans rfl;simp only [List.getElem?_toArray,List.getElem?_cons_zero,List.getElem?_cons_succ] at hq0 hq1;replace h:(fun e:S161=>_) (rd_T161 es (fs.length:Int))=some (r,fs',ds'):=h
 generalize rd_T161 es (fs.length:Int)=x at *;simp only [] at h;have OV:Aside0 (impl_Value_good.f x.f3.f0 x.f3.f1 x.f3.f2=some (goodValueB x.f3)):=⟨goodValueB_some x.f3⟩
 have OS:Aside0 (impl_goodSym.f x.f2=some (goodSymB x.f2)):=⟨rfl⟩
 by_cases k0:x.f0=0
 ·rw [if_pos k0] at h
  obtain ⟨rfl,rfl,rfl⟩:r=(onlyC x&&goodValueB x.f3)∧fs'=fs++[(fs.length:Int)]∧ds'=ds++[0]:=by
   have:=Option.some.inj h
   simp only [Prod.mk.injEq] at this;exact ⟨this.1.symm,this.2.1.symm,this.2.2.symm⟩
  clear h;rw [k0] at hx0;cases hC:onlyC x with
  | false=>
   have hC':exEq 0 0 x.f1 0 x.f2 ⟨#[]⟩ x.f3.f0 x.f3.f0 x.f3.f1 x.f3.f1 x.f3.f2 x.f3.f2 x.f4 0 x.f5 0=false:=by rw [←hC,onlyC,k0]
   clear hC k0;have BQ:=a_ (blk_alloc HT.out.1 (.cells #[.int .i64 0,.int .u8 x.f1,.string x.f2,.int .i64 x.f3.f0,.int .i64 x.f3.f1,.string x.f3.f2,.int .i64 x.f4,.int .i64 x.f5] 161));have OF:=a_ (own_alloc HT.out.2.1 (.cells #[.int .i64 0,.int .u8 x.f1,.string x.f2,.int .i64 x.f3.f0,.int .i64 x.f3.f1,.string x.f3.f2,.int .i64 x.f4,.int .i64 x.f5] 161));have OD:=a_ (own_alloc HT.out.2.2.1 (.cells #[.int .i64 0,.int .u8 x.f1,.string x.f2,.int .i64 x.f3.f0,.int .i64 x.f3.f1,.string x.f3.f2,.int .i64 x.f4,.int .i64 x.f5] 161));have HBQ:=a_ (below_alloc HB.out (.cells #[.int .i64 0,.int .u8 x.f1,.string x.f2,.int .i64 x.f3.f0,.int .i64 x.f3.f1,.string x.f3.f2,.int .i64 x.f4,.int .i64 x.f5] 161));have KQ:=a_ (KeepT.below (below_alloc (Below.refl _ w) (.cells #[.int .i64 0,.int .u8 x.f1,.string x.f2,.int .i64 x.f3.f0,.int .i64 x.f3.f1,.string x.f3.f2,.int .i64 x.f4,.int .i64 x.f5] 161)));go_enter Tryz.func151,Tryz.ntmps151
   go_wp2_with (first
    | (at_builtin;refine print_append_num (w0:=w0) w0.heap.size rfl (.tmp 127) (.tmp 129) 43 3 .i64 8 rfl Tryz.underlying43 info3 (by decide) (.slice AF fs.length cF) fs ((fs.length:Int)) rfl (ev_new (by first|rfl|(simp;done))) OF.out HBQ.out (below_size HBQ.out) (by have:=L60.out;omega) ?_;intro v1 w1 ho1 hb1 hg1 hat1;obtain ⟨A1,m1,c1,ev1,M1⟩:=own_form ho1;subst ev1;have B1:=blk_grown BQ.out hg1 (own_ne OF.out BQ.out (by decide));have hd0:=(blk_cell B1 0).trans rfl;have hd1:=(blk_cell B1 1).trans rfl;have he0:=blk_frozen B1 0;have he1:=blk_frozen B1 1;simp only [List.getElem?_toArray,List.getElem?_cons_zero,List.getElem?_cons_succ] at hd0 hd1;have B2:=a_ (blk_put (cs':=#[.slice A1 m1 c1,.slice (AD) ds.length cD]) B1 0 (.slice A1 m1 c1) rfl);have F2:=a_ (own_setCell (p:=⟨b,0,none⟩) ho1 (own_ne ho1 B1 (by decide)) (.slice A1 m1 c1));have O1:=own_other OD.out hg1 (ne_other NE.out);have O2:=a_ (own_setCell (p:=⟨b,0,none⟩) O1 (own_ne O1 B1 (by decide)) (.slice A1 m1 c1));have HB2:=a_ (below_set (j:=0) (v:=.slice A1 m1 c1) hb1 HWB.out);have K2:=a_ ((KQ.out.trans (KeepT.grown OF.out hg1)).trans (KeepT.set B1 0 (.slice A1 m1 c1)));have N2:=a_ (ne_append NE.out hat1 OD.out);clear B1 O1 ho1 hb1 hg1 hat1)
    | (at_builtin;refine print_append_num (w0:=w0) w0.heap.size rfl (.tmp 137) (.tmp 139) 43 3 .i64 8 rfl Tryz.underlying43 info3 (by decide) (.slice AD ds.length cD) ds (0) rfl (ev_new (by first|rfl|(simp;done))) O2.out HB2.out (below_size HB2.out) (by have:=L60.out;omega) ?_;intro v2 w2 ho2 hb2 hg2 hat2;obtain ⟨A2,m2,c2,ev2,M2⟩:=own_form ho2;subst ev2;have B3:=a_ (blk_grown B2.out hg2 (own_ne O2.out B2.out (by decide)));have hg0:=(blk_cell B3.out 1).trans rfl;have hh1:=blk_frozen B3.out 1;simp only [List.getElem?_toArray,List.getElem?_cons_zero,List.getElem?_cons_succ] at hg0;have F3:=a_ (own_other F2.out hg2 (ne_other (ne_symm N2.out)));have O3:=a_ ho2;have HB3:=a_ hb2;have K3:=a_ (K2.out.trans (KeepT.grown O2.out hg2));have N3:=a_ (ne_append' N2.out hat2 F2.out);clear ho2 hb2 hg2 hat2))
   go_ret;exact ⟨by first|rfl|(simp;done),⟨_,_,blk_put B3.out 1 _ rfl,own_setCell F3.out (own_ne F3.out B3.out (by decide)) _,own_setCell O3.out (own_ne O3.out B3.out (by decide)) _,N3.out⟩,below_set HB3.out HWB.out,(K3.out).trans (KeepT.set B3.out _ _)⟩
  | true=>
   have hC':exEq 0 0 x.f1 0 x.f2 ⟨#[]⟩ x.f3.f0 x.f3.f0 x.f3.f1 x.f3.f1 x.f3.f2 x.f3.f2 x.f4 0 x.f5 0=true:=by rw [←hC,onlyC,k0]
   clear hC k0;go_enter Tryz.func151,Tryz.ntmps151
   go_wp2_with (first
    | (at_builtin;refine print_append_num (w0:=w0) w0.heap.size rfl (.tmp 127) (.tmp 129) 43 3 .i64 8 rfl Tryz.underlying43 info3 (by decide) (.slice AF fs.length cF) fs ((fs.length:Int)) rfl (ev_new (by first|rfl|(simp;done))) OF.out HBQ.out (below_size HBQ.out) (by have:=L60.out;omega) ?_;intro v1 w1 ho1 hb1 hg1 hat1;obtain ⟨A1,m1,c1,ev1,M1⟩:=own_form ho1;subst ev1;have B1:=blk_grown BQ.out hg1 (own_ne OF.out BQ.out (by decide));have hd0:=(blk_cell B1 0).trans rfl;have hd1:=(blk_cell B1 1).trans rfl;have he0:=blk_frozen B1 0;have he1:=blk_frozen B1 1;simp only [List.getElem?_toArray,List.getElem?_cons_zero,List.getElem?_cons_succ] at hd0 hd1;have B2:=a_ (blk_put (cs':=#[.slice A1 m1 c1,.slice (AD) ds.length cD]) B1 0 (.slice A1 m1 c1) rfl);have F2:=a_ (own_setCell (p:=⟨b,0,none⟩) ho1 (own_ne ho1 B1 (by decide)) (.slice A1 m1 c1));have O1:=own_other OD.out hg1 (ne_other NE.out);have O2:=a_ (own_setCell (p:=⟨b,0,none⟩) O1 (own_ne O1 B1 (by decide)) (.slice A1 m1 c1));have HB2:=a_ (below_set (j:=0) (v:=.slice A1 m1 c1) hb1 HWB.out);have K2:=a_ ((KQ.out.trans (KeepT.grown OF.out hg1)).trans (KeepT.set B1 0 (.slice A1 m1 c1)));have N2:=a_ (ne_append NE.out hat1 OD.out);clear B1 O1 ho1 hb1 hg1 hat1)
    | (at_builtin;refine print_append_num (w0:=w0) w0.heap.size rfl (.tmp 137) (.tmp 139) 43 3 .i64 8 rfl Tryz.underlying43 info3 (by decide) (.slice AD ds.length cD) ds (0) rfl (ev_new (by first|rfl|(simp;done))) O2.out HB2.out (below_size HB2.out) (by have:=L60.out;omega) ?_;intro v2 w2 ho2 hb2 hg2 hat2;obtain ⟨A2,m2,c2,ev2,M2⟩:=own_form ho2;subst ev2;have B3:=a_ (blk_grown B2.out hg2 (own_ne O2.out B2.out (by decide)));have hg0:=(blk_cell B3.out 1).trans rfl;have hh1:=blk_frozen B3.out 1;simp only [List.getElem?_toArray,List.getElem?_cons_zero,List.getElem?_cons_succ] at hg0;have F3:=a_ (own_other F2.out hg2 (ne_other (ne_symm N2.out)));have O3:=a_ ho2;have HB3:=a_ hb2;have K3:=a_ (K2.out.trans (KeepT.grown O2.out hg2));have N3:=a_ (ne_append' N2.out hat2 F2.out);clear ho2 hb2 hg2 hat2)
    | (go_at_call 120;refine (impl_Value_good.calls x.f3.f0 x.f3.f1 x.f3.f2 (goodValueB x.f3) _ OV.out).mono ?_;rintro e wq ⟨rfl,hd⟩;have BQ:=a_ (blk_below (blk_alloc HT.out.1 (.cells #[.int .i64 0,.int .u8 x.f1,.string x.f2,.int .i64 x.f3.f0,.int .i64 x.f3.f1,.string x.f3.f2,.int .i64 x.f4,.int .i64 x.f5] 161)) hd);have OF:=a_ (pw_own_below (own_alloc HT.out.2.1 (.cells #[.int .i64 0,.int .u8 x.f1,.string x.f2,.int .i64 x.f3.f0,.int .i64 x.f3.f1,.string x.f3.f2,.int .i64 x.f4,.int .i64 x.f5] 161)) hd);have OD:=a_ (pw_own_below (own_alloc HT.out.2.2.1 (.cells #[.int .i64 0,.int .u8 x.f1,.string x.f2,.int .i64 x.f3.f0,.int .i64 x.f3.f1,.string x.f3.f2,.int .i64 x.f4,.int .i64 x.f5] 161)) hd);have HBQ:=a_ (below_step (below_alloc HB.out (.cells #[.int .i64 0,.int .u8 x.f1,.string x.f2,.int .i64 x.f3.f0,.int .i64 x.f3.f1,.string x.f3.f2,.int .i64 x.f4,.int .i64 x.f5] 161)) hd);have KQ:=a_ ((KeepT.below (below_alloc (Below.refl _ w) (.cells #[.int .i64 0,.int .u8 x.f1,.string x.f2,.int .i64 x.f3.f0,.int .i64 x.f3.f1,.string x.f3.f2,.int .i64 x.f4,.int .i64 x.f5] 161))).trans (KeepT.below hd));have hq2:=(blk_cell BQ.out 0).trans rfl;have hq3:=(blk_cell BQ.out 1).trans rfl;simp only [List.getElem?_toArray,List.getElem?_cons_zero,List.getElem?_cons_succ] at hq2 hq3;clear hd))
   go_ret;exact ⟨by first|rfl|(simp;done),⟨_,_,blk_put B3.out 1 _ rfl,own_setCell F3.out (own_ne F3.out B3.out (by decide)) _,own_setCell O3.out (own_ne O3.out B3.out (by decide)) _,N3.out⟩,below_set HB3.out HWB.out,(K3.out).trans (KeepT.set B3.out _ _)⟩
 by_cases k1:x.f0=1
 ·rw [if_neg k0,if_pos k1] at h;clear k0
  obtain ⟨rfl,rfl,rfl⟩:r=(onlyV x&&goodSymB x.f2)∧fs'=fs++[(fs.length:Int)]∧ds'=ds++[0]:=by
   have:=Option.some.inj h
   simp only [Prod.mk.injEq] at this;exact ⟨this.1.symm,this.2.1.symm,this.2.2.symm⟩
  clear h;rw [k1] at hx0;cases hC:onlyV x with
  | false=>
   have hC':exEq 1 1 x.f1 0 x.f2 x.f2 x.f3.f0 0 x.f3.f1 0 x.f3.f2 ⟨#[]⟩ x.f4 0 x.f5 0=false:=by rw [←hC,onlyV,k1]
   clear hC k1;have BQ:=a_ (blk_alloc HT.out.1 (.cells #[.int .i64 1,.int .u8 x.f1,.string x.f2,.int .i64 x.f3.f0,.int .i64 x.f3.f1,.string x.f3.f2,.int .i64 x.f4,.int .i64 x.f5] 161));have OF:=a_ (own_alloc HT.out.2.1 (.cells #[.int .i64 1,.int .u8 x.f1,.string x.f2,.int .i64 x.f3.f0,.int .i64 x.f3.f1,.string x.f3.f2,.int .i64 x.f4,.int .i64 x.f5] 161));have OD:=a_ (own_alloc HT.out.2.2.1 (.cells #[.int .i64 1,.int .u8 x.f1,.string x.f2,.int .i64 x.f3.f0,.int .i64 x.f3.f1,.string x.f3.f2,.int .i64 x.f4,.int .i64 x.f5] 161));have HBQ:=a_ (below_alloc HB.out (.cells #[.int .i64 1,.int .u8 x.f1,.string x.f2,.int .i64 x.f3.f0,.int .i64 x.f3.f1,.string x.f3.f2,.int .i64 x.f4,.int .i64 x.f5] 161));have KQ:=a_ (KeepT.below (below_alloc (Below.refl _ w) (.cells #[.int .i64 1,.int .u8 x.f1,.string x.f2,.int .i64 x.f3.f0,.int .i64 x.f3.f1,.string x.f3.f2,.int .i64 x.f4,.int .i64 x.f5] 161)));go_enter Tryz.func151,Tryz.ntmps151
   go_wp2_with (first
    | (at_builtin;refine print_append_num (w0:=w0) w0.heap.size rfl (.tmp 127) (.tmp 129) 43 3 .i64 8 rfl Tryz.underlying43 info3 (by decide) (.slice AF fs.length cF) fs ((fs.length:Int)) rfl (ev_new (by first|rfl|(simp;done))) OF.out HBQ.out (below_size HBQ.out) (by have:=L60.out;omega) ?_;intro v1 w1 ho1 hb1 hg1 hat1;obtain ⟨A1,m1,c1,ev1,M1⟩:=own_form ho1;subst ev1;have B1:=blk_grown BQ.out hg1 (own_ne OF.out BQ.out (by decide));have hd0:=(blk_cell B1 0).trans rfl;have hd1:=(blk_cell B1 1).trans rfl;have he0:=blk_frozen B1 0;have he1:=blk_frozen B1 1;simp only [List.getElem?_toArray,List.getElem?_cons_zero,List.getElem?_cons_succ] at hd0 hd1;have B2:=a_ (blk_put (cs':=#[.slice A1 m1 c1,.slice (AD) ds.length cD]) B1 0 (.slice A1 m1 c1) rfl);have F2:=a_ (own_setCell (p:=⟨b,0,none⟩) ho1 (own_ne ho1 B1 (by decide)) (.slice A1 m1 c1));have O1:=own_other OD.out hg1 (ne_other NE.out);have O2:=a_ (own_setCell (p:=⟨b,0,none⟩) O1 (own_ne O1 B1 (by decide)) (.slice A1 m1 c1));have HB2:=a_ (below_set (j:=0) (v:=.slice A1 m1 c1) hb1 HWB.out);have K2:=a_ ((KQ.out.trans (KeepT.grown OF.out hg1)).trans (KeepT.set B1 0 (.slice A1 m1 c1)));have N2:=a_ (ne_append NE.out hat1 OD.out);clear B1 O1 ho1 hb1 hg1 hat1)
    | (at_builtin;refine print_append_num (w0:=w0) w0.heap.size rfl (.tmp 137) (.tmp 139) 43 3 .i64 8 rfl Tryz.underlying43 info3 (by decide) (.slice AD ds.length cD) ds (0) rfl (ev_new (by first|rfl|(simp;done))) O2.out HB2.out (below_size HB2.out) (by have:=L60.out;omega) ?_;intro v2 w2 ho2 hb2 hg2 hat2;obtain ⟨A2,m2,c2,ev2,M2⟩:=own_form ho2;subst ev2;have B3:=a_ (blk_grown B2.out hg2 (own_ne O2.out B2.out (by decide)));have hg0:=(blk_cell B3.out 1).trans rfl;have hh1:=blk_frozen B3.out 1;simp only [List.getElem?_toArray,List.getElem?_cons_zero,List.getElem?_cons_succ] at hg0;have F3:=a_ (own_other F2.out hg2 (ne_other (ne_symm N2.out)));have O3:=a_ ho2;have HB3:=a_ hb2;have K3:=a_ (K2.out.trans (KeepT.grown O2.out hg2));have N3:=a_ (ne_append' N2.out hat2 F2.out);clear ho2 hb2 hg2 hat2))
   go_ret;exact ⟨by first|rfl|(simp;done),⟨_,_,blk_put B3.out 1 _ rfl,own_setCell F3.out (own_ne F3.out B3.out (by decide)) _,own_setCell O3.out (own_ne O3.out B3.out (by decide)) _,N3.out⟩,below_set HB3.out HWB.out,(K3.out).trans (KeepT.set B3.out _ _)⟩
  | true=>
   have hC':exEq 1 1 x.f1 0 x.f2 x.f2 x.f3.f0 0 x.f3.f1 0 x.f3.f2 ⟨#[]⟩ x.f4 0 x.f5 0=true:=by rw [←hC,onlyV,k1]
   clear hC k1;go_enter Tryz.func151,Tryz.ntmps151
   go_wp2_with (first
    | (at_builtin;refine print_append_num (w0:=w0) w0.heap.size rfl (.tmp 127) (.tmp 129) 43 3 .i64 8 rfl Tryz.underlying43 info3 (by decide) (.slice AF fs.length cF) fs ((fs.length:Int)) rfl (ev_new (by first|rfl|(simp;done))) OF.out HBQ.out (below_size HBQ.out) (by have:=L60.out;omega) ?_;intro v1 w1 ho1 hb1 hg1 hat1;obtain ⟨A1,m1,c1,ev1,M1⟩:=own_form ho1;subst ev1;have B1:=blk_grown BQ.out hg1 (own_ne OF.out BQ.out (by decide));have hd0:=(blk_cell B1 0).trans rfl;have hd1:=(blk_cell B1 1).trans rfl;have he0:=blk_frozen B1 0;have he1:=blk_frozen B1 1;simp only [List.getElem?_toArray,List.getElem?_cons_zero,List.getElem?_cons_succ] at hd0 hd1;have B2:=a_ (blk_put (cs':=#[.slice A1 m1 c1,.slice (AD) ds.length cD]) B1 0 (.slice A1 m1 c1) rfl);have F2:=a_ (own_setCell (p:=⟨b,0,none⟩) ho1 (own_ne ho1 B1 (by decide)) (.slice A1 m1 c1));have O1:=own_other OD.out hg1 (ne_other NE.out);have O2:=a_ (own_setCell (p:=⟨b,0,none⟩) O1 (own_ne O1 B1 (by decide)) (.slice A1 m1 c1));have HB2:=a_ (below_set (j:=0) (v:=.slice A1 m1 c1) hb1 HWB.out);have K2:=a_ ((KQ.out.trans (KeepT.grown OF.out hg1)).trans (KeepT.set B1 0 (.slice A1 m1 c1)));have N2:=a_ (ne_append NE.out hat1 OD.out);clear B1 O1 ho1 hb1 hg1 hat1)
    | (at_builtin;refine print_append_num (w0:=w0) w0.heap.size rfl (.tmp 137) (.tmp 139) 43 3 .i64 8 rfl Tryz.underlying43 info3 (by decide) (.slice AD ds.length cD) ds (0) rfl (ev_new (by first|rfl|(simp;done))) O2.out HB2.out (below_size HB2.out) (by have:=L60.out;omega) ?_;intro v2 w2 ho2 hb2 hg2 hat2;obtain ⟨A2,m2,c2,ev2,M2⟩:=own_form ho2;subst ev2;have B3:=a_ (blk_grown B2.out hg2 (own_ne O2.out B2.out (by decide)));have hg0:=(blk_cell B3.out 1).trans rfl;have hh1:=blk_frozen B3.out 1;simp only [List.getElem?_toArray,List.getElem?_cons_zero,List.getElem?_cons_succ] at hg0;have F3:=a_ (own_other F2.out hg2 (ne_other (ne_symm N2.out)));have O3:=a_ ho2;have HB3:=a_ hb2;have K3:=a_ (K2.out.trans (KeepT.grown O2.out hg2));have N3:=a_ (ne_append' N2.out hat2 F2.out);clear ho2 hb2 hg2 hat2)
    | (go_at_call 67;refine (impl_goodSym.calls x.f2 (goodSymB x.f2) _ OS.out).mono ?_;rintro e wq ⟨rfl,hd⟩;have BQ:=a_ (blk_below (blk_alloc HT.out.1 (.cells #[.int .i64 1,.int .u8 x.f1,.string x.f2,.int .i64 x.f3.f0,.int .i64 x.f3.f1,.string x.f3.f2,.int .i64 x.f4,.int .i64 x.f5] 161)) hd);have OF:=a_ (pw_own_below (own_alloc HT.out.2.1 (.cells #[.int .i64 1,.int .u8 x.f1,.string x.f2,.int .i64 x.f3.f0,.int .i64 x.f3.f1,.string x.f3.f2,.int .i64 x.f4,.int .i64 x.f5] 161)) hd);have OD:=a_ (pw_own_below (own_alloc HT.out.2.2.1 (.cells #[.int .i64 1,.int .u8 x.f1,.string x.f2,.int .i64 x.f3.f0,.int .i64 x.f3.f1,.string x.f3.f2,.int .i64 x.f4,.int .i64 x.f5] 161)) hd);have HBQ:=a_ (below_step (below_alloc HB.out (.cells #[.int .i64 1,.int .u8 x.f1,.string x.f2,.int .i64 x.f3.f0,.int .i64 x.f3.f1,.string x.f3.f2,.int .i64 x.f4,.int .i64 x.f5] 161)) hd);have KQ:=a_ ((KeepT.below (below_alloc (Below.refl _ w) (.cells #[.int .i64 1,.int .u8 x.f1,.string x.f2,.int .i64 x.f3.f0,.int .i64 x.f3.f1,.string x.f3.f2,.int .i64 x.f4,.int .i64 x.f5] 161))).trans (KeepT.below hd));have hq2:=(blk_cell BQ.out 0).trans rfl;have hq3:=(blk_cell BQ.out 1).trans rfl;simp only [List.getElem?_toArray,List.getElem?_cons_zero,List.getElem?_cons_succ] at hq2 hq3;clear hd))
   go_ret;exact ⟨by first|rfl|(simp;done),⟨_,_,blk_put B3.out 1 _ rfl,own_setCell F3.out (own_ne F3.out B3.out (by decide)) _,own_setCell O3.out (own_ne O3.out B3.out (by decide)) _,N3.out⟩,below_set HB3.out HWB.out,(K3.out).trans (KeepT.set B3.out _ _)⟩
 by_cases k2:x.f0=2
 ·rw [if_neg k0,if_neg k1,if_pos k2] at h;clear k0 k1;have hon:onlyO x=exEq 2 2 x.f1 x.f1 x.f2 ⟨#[]⟩ x.f3.f0 0 x.f3.f1 0 x.f3.f2 ⟨#[]⟩ x.f4 x.f4 x.f5 x.f5:=by rw [onlyO,k2]
  rw [k2] at hx0;clear k2;have hw1:IntKind.i64.wrap ((fs.length:Int)-1)=(fs.length:Int)-1:=IntWalk.i64_in _ (by omega)
  have HW1:=a_ hw1;clear hw1;by_cases o1:onlyO x=true
  rotate_left
  ·rw [if_neg (fun q=>o1 q.1)] at h
   obtain ⟨rfl,rfl,rfl⟩:r=(false)∧fs'=fs++[(fs.length:Int)]∧ds'=ds++[0]:=by
    have:=Option.some.inj h
    simp only [Prod.mk.injEq] at this;exact ⟨this.1.symm,this.2.1.symm,this.2.2.symm⟩
   clear h;have hC':exEq 2 2 x.f1 x.f1 x.f2 ⟨#[]⟩ x.f3.f0 0 x.f3.f1 0 x.f3.f2 ⟨#[]⟩ x.f4 x.f4 x.f5 x.f5=false:=by rw [←hon];simpa using o1
   clear hon o1;exact uf7f_0
  have hC':exEq 2 2 x.f1 x.f1 x.f2 ⟨#[]⟩ x.f3.f0 0 x.f3.f1 0 x.f3.f2 ⟨#[]⟩ x.f4 x.f4 x.f5 x.f5=true:=hon.symm.trans o1
  clear hon;by_cases a1:arithB x.f1=true
  rotate_left
  ·rw [if_neg (fun q=>a1 q.2.1)] at h
   obtain ⟨rfl,rfl,rfl⟩:r=(false)∧fs'=fs++[(fs.length:Int)]∧ds'=ds++[0]:=by
    have:=Option.some.inj h
    simp only [Prod.mk.injEq] at this;exact ⟨this.1.symm,this.2.1.symm,this.2.2.symm⟩
   clear h;have ha1:decide (0≤arIdx x.f1)=false:=by simpa [arithB] using a1
   clear a1 o1;exact uf7f_0
  have ha1:decide (0≤arIdx x.f1)=true:=a1
  by_cases b1:x.f5=(fs.length:Int)-1
  rotate_left
  ·rw [if_neg (fun q=>b1 q.2.2.1)] at h
   obtain ⟨rfl,rfl,rfl⟩:r=(false)∧fs'=fs++[(fs.length:Int)]∧ds'=ds++[0]:=by
    have:=Option.some.inj h
    simp only [Prod.mk.injEq] at this;exact ⟨this.1.symm,this.2.1.symm,this.2.2.symm⟩
   clear h;have hb1:(x.f5==(fs.length:Int)-1)=false:=by simpa using b1
   have hw1:=HW1.out;clear a1 o1 b1;exact uf7f_0
  have hb1:(x.f5==(fs.length:Int)-1)=true:=by simpa using b1
  by_cases b2:0≤x.f5
  rotate_left
  ·rw [if_neg (fun q=>b2 q.2.2.2.1)] at h
   obtain ⟨rfl,rfl,rfl⟩:r=(false)∧fs'=fs++[(fs.length:Int)]∧ds'=ds++[0]:=by
    have:=Option.some.inj h
    simp only [Prod.mk.injEq] at this;exact ⟨this.1.symm,this.2.1.symm,this.2.2.symm⟩
   clear h;have hb2:decide (0≤x.f5)=false:=decide_eq_false b2
   have hw1:=HW1.out;clear a1 o1 b1 b2;exact uf7f_0
  have hb2:decide (0≤x.f5)=true:=decide_eq_true b2
  by_cases a2:0≤x.f4
  rotate_left
  ·rw [if_neg (fun q=>a2 q.2.2.2.2)] at h
   obtain ⟨rfl,rfl,rfl⟩:r=(false)∧fs'=fs++[(fs.length:Int)]∧ds'=ds++[0]:=by
    have:=Option.some.inj h
    simp only [Prod.mk.injEq] at this;exact ⟨this.1.symm,this.2.1.symm,this.2.2.symm⟩
   clear h;have ha2:decide (0≤x.f4)=false:=decide_eq_false a2
   have hw1:=HW1.out;clear a1 o1 b1 b2 a2;exact uf7f_0
  have ha2:decide (0≤x.f4)=true:=decide_eq_true a2
  rw [if_pos ⟨o1,a1,b1,b2,a2⟩] at h;have hl5:x.f5<(fs.length:Int):=by omega
  have L1:Aside0 (x.f5<(ds.length:Int)):=⟨by have:=L60.out;omega⟩
  clear a1 o1 b1;by_cases g1:0≤rd fs x.f5∧rd fs x.f5≤64
  rotate_left
  ·rw [if_neg g1] at h;cases h
  rw [if_pos g1] at h;have hw2:IntKind.i64.wrap (rd fs x.f5-1)=rd fs x.f5-1:=IntWalk.i64_in _ (by omega)
  have HW2:=a_ hw2;clear hw2 g1;obtain ⟨ad5,e5,hy5⟩:=(own_readsI (own_alloc HT.out.2.1 (.cells #[.int .i64 2,.int .u8 x.f1,.string x.f2,.int .i64 x.f3.f0,.int .i64 x.f3.f1,.string x.f3.f2,.int .i64 x.f4,.int .i64 x.f5] 161))).at_ x.f5 b2 hl5;cases e5;by_cases a3:x.f4=rd fs x.f5-1
  rotate_left
  ·rw [if_neg a3] at h
   obtain ⟨rfl,rfl,rfl⟩:r=(false)∧fs'=fs++[(fs.length:Int)]∧ds'=ds++[0]:=by
    have:=Option.some.inj h
    simp only [Prod.mk.injEq] at this;exact ⟨this.1.symm,this.2.1.symm,this.2.2.symm⟩
   clear h;have ha3:(x.f4==rd fs x.f5-1)=false:=by simpa using a3
   have hw1:=HW1.out;have hw2:=HW2.out;clear a3;go_enter Tryz.func151,Tryz.ntmps151;go_wp2;go_quiet ((go_at_call 179;exact Calls.quiet_of_same (arIdx_calls x.f1 _)))
   generalize hgq:(w.alloc (.cells #[.int .i64 2,.int .u8 x.f1,.string x.f2,.int .i64 x.f3.f0,.int .i64 x.f3.f1,.string x.f3.f2,.int .i64 x.f4,.int .i64 x.f5] 161)).drewN nq=wq;have BQ:=a_ (blk_at hgq (blk_alloc HT.out.1 (.cells #[.int .i64 2,.int .u8 x.f1,.string x.f2,.int .i64 x.f3.f0,.int .i64 x.f3.f1,.string x.f3.f2,.int .i64 x.f4,.int .i64 x.f5] 161)));have BX:=a_ (blk_at hgq (blk_new w (.cells #[.int .i64 2,.int .u8 x.f1,.string x.f2,.int .i64 x.f3.f0,.int .i64 x.f3.f1,.string x.f3.f2,.int .i64 x.f4,.int .i64 x.f5] 161)));have OF:=a_ (pw_own_below HT.out.2.1 (below_at hgq (below_alloc (Below.refl _ w) (.cells #[.int .i64 2,.int .u8 x.f1,.string x.f2,.int .i64 x.f3.f0,.int .i64 x.f3.f1,.string x.f3.f2,.int .i64 x.f4,.int .i64 x.f5] 161))));have OD:=a_ (pw_own_below HT.out.2.2.1 (below_at hgq (below_alloc (Below.refl _ w) (.cells #[.int .i64 2,.int .u8 x.f1,.string x.f2,.int .i64 x.f3.f0,.int .i64 x.f3.f1,.string x.f3.f2,.int .i64 x.f4,.int .i64 x.f5] 161))));have HBQ:=a_ (below_at hgq (below_alloc HB.out (.cells #[.int .i64 2,.int .u8 x.f1,.string x.f2,.int .i64 x.f3.f0,.int .i64 x.f3.f1,.string x.f3.f2,.int .i64 x.f4,.int .i64 x.f5] 161)));have KQ:=a_ (KeepT.below (below_at hgq (below_alloc (Below.refl _ w) (.cells #[.int .i64 2,.int .u8 x.f1,.string x.f2,.int .i64 x.f3.f0,.int .i64 x.f3.f1,.string x.f3.f2,.int .i64 x.f4,.int .i64 x.f5] 161))));clear hgq;have hq0z:=(blk_cell BQ.out 0).trans rfl;have hq1z:=(blk_cell BQ.out 1).trans rfl;have ha4z:=(blk_cell BX.out 6).trans rfl;have ha5z:=(blk_cell BX.out 7).trans rfl;simp only [List.getElem?_toArray,List.getElem?_cons_zero,List.getElem?_cons_succ] at hq0z hq1z ha4z ha5z
   go_wp2_with (first
    | (at_builtin;refine print_append_num (w0:=w0) w0.heap.size rfl (.tmp 127) (.tmp 129) 43 3 .i64 8 rfl Tryz.underlying43 info3 (by decide) (.slice (some ad5) fs.length cF) fs ((fs.length:Int)) rfl (ev_new (by first|rfl|(simp;done))) OF.out HBQ.out (below_size HBQ.out) (by have:=L60.out;omega) ?_;intro v1 w1 ho1 hb1 hg1 hat1;obtain ⟨A1,m1,c1,ev1,M1⟩:=own_form ho1;subst ev1;have B1:=blk_grown BQ.out hg1 (own_ne OF.out BQ.out (by decide));have hd0:=(blk_cell B1 0).trans rfl;have hd1:=(blk_cell B1 1).trans rfl;have he0:=blk_frozen B1 0;have he1:=blk_frozen B1 1;simp only [List.getElem?_toArray,List.getElem?_cons_zero,List.getElem?_cons_succ] at hd0 hd1;have B2:=a_ (blk_put (cs':=#[.slice A1 m1 c1,.slice (AD) ds.length cD]) B1 0 (.slice A1 m1 c1) rfl);have F2:=a_ (own_setCell (p:=⟨b,0,none⟩) ho1 (own_ne ho1 B1 (by decide)) (.slice A1 m1 c1));have O1:=own_other OD.out hg1 (ne_other NE.out);have O2:=a_ (own_setCell (p:=⟨b,0,none⟩) O1 (own_ne O1 B1 (by decide)) (.slice A1 m1 c1));have HB2:=a_ (below_set (j:=0) (v:=.slice A1 m1 c1) hb1 HWB.out);have K2:=a_ ((KQ.out.trans (KeepT.grown OF.out hg1)).trans (KeepT.set B1 0 (.slice A1 m1 c1)));have N2:=a_ (ne_append NE.out hat1 OD.out);clear B1 O1 ho1 hb1 hg1 hat1)
    | (at_builtin;refine print_append_num (w0:=w0) w0.heap.size rfl (.tmp 137) (.tmp 139) 43 3 .i64 8 rfl Tryz.underlying43 info3 (by decide) (.slice AD ds.length cD) ds (0) rfl (ev_new (by first|rfl|(simp;done))) O2.out HB2.out (below_size HB2.out) (by have:=L60.out;omega) ?_;intro v2 w2 ho2 hb2 hg2 hat2;obtain ⟨A2,m2,c2,ev2,M2⟩:=own_form ho2;subst ev2;have B3:=a_ (blk_grown B2.out hg2 (own_ne O2.out B2.out (by decide)));have hg0:=(blk_cell B3.out 1).trans rfl;have hh1:=blk_frozen B3.out 1;simp only [List.getElem?_toArray,List.getElem?_cons_zero,List.getElem?_cons_succ] at hg0;have F3:=a_ (own_other F2.out hg2 (ne_other (ne_symm N2.out)));have O3:=a_ ho2;have HB3:=a_ hb2;have K3:=a_ (K2.out.trans (KeepT.grown O2.out hg2));have N3:=a_ (ne_append' N2.out hat2 F2.out);clear ho2 hb2 hg2 hat2))
   go_ret;exact uf7f_2
  rw [if_pos a3] at h;have ha3:(x.f4==rd fs x.f5-1)=true:=by simpa using a3
  clear a3;by_cases g2:x.f4<(fs.length:Int)∧0≤rd ds x.f4∧rd ds x.f4≤64∧0≤rd ds x.f5∧rd ds x.f5≤64
  rotate_left
  ·rw [if_neg g2] at h;cases h
  rw [if_pos g2] at h;obtain ⟨hl4,g2,g3,g4,g5⟩:=g2;have L2:Aside0 (x.f4<(ds.length:Int)):=⟨by have:=L60.out;omega⟩
  have hw3:IntKind.i64.wrap (1+mx (rd ds x.f4) (rd ds x.f5))=1+mx (rd ds x.f4) (rd ds x.f5):=IntWalk.i64_in _ (by unfold mx;split<;>omega)
  have HW3:=a_ hw3;clear hw3
  obtain ⟨rfl,rfl,rfl⟩:r=decide (1+mx (rd ds x.f4) (rd ds x.f5)≤20)∧fs'=fs++[rd fs x.f4]∧ds'=ds++[1+mx (rd ds x.f4) (rd ds x.f5)]:=by
   have:=Option.some.inj h
   simp only [Prod.mk.injEq] at this;exact ⟨this.1.symm,this.2.1.symm,this.2.2.symm⟩
  clear h;have hw1:=HW1.out;have hw2:=HW2.out;go_enter Tryz.func151,Tryz.ntmps151;go_wp2;go_quiet ((go_at_call 179;exact Calls.quiet_of_same (arIdx_calls x.f1 _)))
  generalize hgq:(w.alloc (.cells #[.int .i64 2,.int .u8 x.f1,.string x.f2,.int .i64 x.f3.f0,.int .i64 x.f3.f1,.string x.f3.f2,.int .i64 x.f4,.int .i64 x.f5] 161)).drewN nq=wq;have BQ:=a_ (blk_at hgq (blk_alloc HT.out.1 (.cells #[.int .i64 2,.int .u8 x.f1,.string x.f2,.int .i64 x.f3.f0,.int .i64 x.f3.f1,.string x.f3.f2,.int .i64 x.f4,.int .i64 x.f5] 161)));have BX:=a_ (blk_at hgq (blk_new w (.cells #[.int .i64 2,.int .u8 x.f1,.string x.f2,.int .i64 x.f3.f0,.int .i64 x.f3.f1,.string x.f3.f2,.int .i64 x.f4,.int .i64 x.f5] 161)));have OF:=a_ (pw_own_below HT.out.2.1 (below_at hgq (below_alloc (Below.refl _ w) (.cells #[.int .i64 2,.int .u8 x.f1,.string x.f2,.int .i64 x.f3.f0,.int .i64 x.f3.f1,.string x.f3.f2,.int .i64 x.f4,.int .i64 x.f5] 161))));have OD:=a_ (pw_own_below HT.out.2.2.1 (below_at hgq (below_alloc (Below.refl _ w) (.cells #[.int .i64 2,.int .u8 x.f1,.string x.f2,.int .i64 x.f3.f0,.int .i64 x.f3.f1,.string x.f3.f2,.int .i64 x.f4,.int .i64 x.f5] 161))));have HBQ:=a_ (below_at hgq (below_alloc HB.out (.cells #[.int .i64 2,.int .u8 x.f1,.string x.f2,.int .i64 x.f3.f0,.int .i64 x.f3.f1,.string x.f3.f2,.int .i64 x.f4,.int .i64 x.f5] 161)));have KQ:=a_ (KeepT.below (below_at hgq (below_alloc (Below.refl _ w) (.cells #[.int .i64 2,.int .u8 x.f1,.string x.f2,.int .i64 x.f3.f0,.int .i64 x.f3.f1,.string x.f3.f2,.int .i64 x.f4,.int .i64 x.f5] 161))));clear hgq;have hq0z:=(blk_cell BQ.out 0).trans rfl;have hq1z:=(blk_cell BQ.out 1).trans rfl;have ha4z:=(blk_cell BX.out 6).trans rfl;have ha5z:=(blk_cell BX.out 7).trans rfl;simp only [List.getElem?_toArray,List.getElem?_cons_zero,List.getElem?_cons_succ] at hq0z hq1z ha4z ha5z;obtain ⟨ad4,e4,hy4⟩:=(own_readsI OF.out).at_ x.f4 a2 hl4;cases e4;have hi0:(0:Int)≤x.f4:=a2
  go_wp2;go_quiet (fail)
  generalize hgq:wq.drewN nq=wr;replace BQ:=a_ (blk_at hgq BQ.out);replace BX:=a_ (blk_at hgq BX.out);replace OF:=a_ (pw_own_below OF.out (below_at hgq (Below.refl _ _)));replace OD:=a_ (pw_own_below OD.out (below_at hgq (Below.refl _ _)));replace HBQ:=a_ (below_at hgq HBQ.out);replace KQ:=a_ (KQ.out.trans (KeepT.below (below_at hgq (Below.refl _ _))));clear hgq;have hq0y:=(blk_cell BQ.out 0).trans rfl;have hq1y:=(blk_cell BQ.out 1).trans rfl;have ha4y:=(blk_cell BX.out 6).trans rfl;have ha5y:=(blk_cell BX.out 7).trans rfl;simp only [List.getElem?_toArray,List.getElem?_cons_zero,List.getElem?_cons_succ] at hq0y hq1y ha4y ha5y;obtain ⟨ad6,e6,hy6⟩:=(own_readsI OD.out).at_ x.f4 a2 L2.out;cases e6;obtain ⟨ad7,e7,hy7⟩:=(own_readsI OD.out).at_ x.f5 b2 L1.out;cases e7;have hl8:=L1.out;have hl9:=L2.out;by_cases cm:rd ds x.f4<rd ds x.f5
  ·have em:=mx_lt cm;have hw3:=HW3.out;rw [em] at hw3;have EM:=a_ em;clear em;go_wp2;go_quiet (fail)
   generalize hgq:wr.drewN nq=ws;replace BQ:=a_ (blk_at hgq BQ.out);replace BX:=a_ (blk_at hgq BX.out);replace OF:=a_ (pw_own_below OF.out (below_at hgq (Below.refl _ _)));replace OD:=a_ (pw_own_below OD.out (below_at hgq (Below.refl _ _)));replace HBQ:=a_ (below_at hgq HBQ.out);replace KQ:=a_ (KQ.out.trans (KeepT.below (below_at hgq (Below.refl _ _))));clear hgq;have hq0x:=(blk_cell BQ.out 0).trans rfl;have hq1x:=(blk_cell BQ.out 1).trans rfl;have ha4x:=(blk_cell BX.out 6).trans rfl;have ha5x:=(blk_cell BX.out 7).trans rfl;simp only [List.getElem?_toArray,List.getElem?_cons_zero,List.getElem?_cons_succ] at hq0x hq1x ha4x ha5x
   go_wp2_with (first
    | (at_builtin;refine print_append_num (w0:=w0) w0.heap.size rfl (.tmp 127) (.tmp 129) 43 3 .i64 8 rfl Tryz.underlying43 info3 (by decide) (.slice (some ad5) fs.length cF) fs (rd fs x.f4) rfl (ev_new (by first|rfl|(simp;done))) OF.out HBQ.out (below_size HBQ.out) (by have:=L60.out;omega) ?_;intro v1 w1 ho1 hb1 hg1 hat1;obtain ⟨A1,m1,c1,ev1,M1⟩:=own_form ho1;subst ev1;have B1:=blk_grown BQ.out hg1 (own_ne OF.out BQ.out (by decide));have hd0:=(blk_cell B1 0).trans rfl;have hd1:=(blk_cell B1 1).trans rfl;have he0:=blk_frozen B1 0;have he1:=blk_frozen B1 1;simp only [List.getElem?_toArray,List.getElem?_cons_zero,List.getElem?_cons_succ] at hd0 hd1;have B2:=a_ (blk_put (cs':=#[.slice A1 m1 c1,.slice ((some ad6)) ds.length cD]) B1 0 (.slice A1 m1 c1) rfl);have F2:=a_ (own_setCell (p:=⟨b,0,none⟩) ho1 (own_ne ho1 B1 (by decide)) (.slice A1 m1 c1));have O1:=own_other OD.out hg1 (ne_other NE.out);have O2:=a_ (own_setCell (p:=⟨b,0,none⟩) O1 (own_ne O1 B1 (by decide)) (.slice A1 m1 c1));have HB2:=a_ (below_set (j:=0) (v:=.slice A1 m1 c1) hb1 HWB.out);have K2:=a_ ((KQ.out.trans (KeepT.grown OF.out hg1)).trans (KeepT.set B1 0 (.slice A1 m1 c1)));have N2:=a_ (ne_append NE.out hat1 OD.out);clear B1 O1 ho1 hb1 hg1 hat1)
    | (at_builtin;refine print_append_num (w0:=w0) w0.heap.size rfl (.tmp 137) (.tmp 139) 43 3 .i64 8 rfl Tryz.underlying43 info3 (by decide) (.slice (some ad6) ds.length cD) ds (1+rd ds x.f5) rfl (ev_new (by first|rfl|(simp;done))) O2.out HB2.out (below_size HB2.out) (by have:=L60.out;omega) ?_;intro v2 w2 ho2 hb2 hg2 hat2;obtain ⟨A2,m2,c2,ev2,M2⟩:=own_form ho2;subst ev2;have B3:=a_ (blk_grown B2.out hg2 (own_ne O2.out B2.out (by decide)));have hg0:=(blk_cell B3.out 1).trans rfl;have hh1:=blk_frozen B3.out 1;simp only [List.getElem?_toArray,List.getElem?_cons_zero,List.getElem?_cons_succ] at hg0;have F3:=a_ (own_other F2.out hg2 (ne_other (ne_symm N2.out)));have O3:=a_ ho2;have HB3:=a_ hb2;have K3:=a_ (K2.out.trans (KeepT.grown O2.out hg2));have N3:=a_ (ne_append' N2.out hat2 F2.out);clear ho2 hb2 hg2 hat2))
   go_ret;rw [EM.out];exact uf7f_2
  ·have em:=mx_ge cm;have hw3:=HW3.out;rw [em] at hw3;have EM:=a_ em;clear em;go_wp2;go_quiet (fail)
   generalize hgq:wr.drewN nq=ws;replace BQ:=a_ (blk_at hgq BQ.out);replace BX:=a_ (blk_at hgq BX.out);replace OF:=a_ (pw_own_below OF.out (below_at hgq (Below.refl _ _)));replace OD:=a_ (pw_own_below OD.out (below_at hgq (Below.refl _ _)));replace HBQ:=a_ (below_at hgq HBQ.out);replace KQ:=a_ (KQ.out.trans (KeepT.below (below_at hgq (Below.refl _ _))));clear hgq;have hq0x:=(blk_cell BQ.out 0).trans rfl;have hq1x:=(blk_cell BQ.out 1).trans rfl;have ha4x:=(blk_cell BX.out 6).trans rfl;have ha5x:=(blk_cell BX.out 7).trans rfl;simp only [List.getElem?_toArray,List.getElem?_cons_zero,List.getElem?_cons_succ] at hq0x hq1x ha4x ha5x
   go_wp2_with (first
    | (at_builtin;refine print_append_num (w0:=w0) w0.heap.size rfl (.tmp 127) (.tmp 129) 43 3 .i64 8 rfl Tryz.underlying43 info3 (by decide) (.slice (some ad5) fs.length cF) fs (rd fs x.f4) rfl (ev_new (by first|rfl|(simp;done))) OF.out HBQ.out (below_size HBQ.out) (by have:=L60.out;omega) ?_;intro v1 w1 ho1 hb1 hg1 hat1;obtain ⟨A1,m1,c1,ev1,M1⟩:=own_form ho1;subst ev1;have B1:=blk_grown BQ.out hg1 (own_ne OF.out BQ.out (by decide));have hd0:=(blk_cell B1 0).trans rfl;have hd1:=(blk_cell B1 1).trans rfl;have he0:=blk_frozen B1 0;have he1:=blk_frozen B1 1;simp only [List.getElem?_toArray,List.getElem?_cons_zero,List.getElem?_cons_succ] at hd0 hd1;have B2:=a_ (blk_put (cs':=#[.slice A1 m1 c1,.slice ((some ad6)) ds.length cD]) B1 0 (.slice A1 m1 c1) rfl);have F2:=a_ (own_setCell (p:=⟨b,0,none⟩) ho1 (own_ne ho1 B1 (by decide)) (.slice A1 m1 c1));have O1:=own_other OD.out hg1 (ne_other NE.out);have O2:=a_ (own_setCell (p:=⟨b,0,none⟩) O1 (own_ne O1 B1 (by decide)) (.slice A1 m1 c1));have HB2:=a_ (below_set (j:=0) (v:=.slice A1 m1 c1) hb1 HWB.out);have K2:=a_ ((KQ.out.trans (KeepT.grown OF.out hg1)).trans (KeepT.set B1 0 (.slice A1 m1 c1)));have N2:=a_ (ne_append NE.out hat1 OD.out);clear B1 O1 ho1 hb1 hg1 hat1)
    | (at_builtin;refine print_append_num (w0:=w0) w0.heap.size rfl (.tmp 137) (.tmp 139) 43 3 .i64 8 rfl Tryz.underlying43 info3 (by decide) (.slice (some ad6) ds.length cD) ds (1+rd ds x.f4) rfl (ev_new (by first|rfl|(simp;done))) O2.out HB2.out (below_size HB2.out) (by have:=L60.out;omega) ?_;intro v2 w2 ho2 hb2 hg2 hat2;obtain ⟨A2,m2,c2,ev2,M2⟩:=own_form ho2;subst ev2;have B3:=a_ (blk_grown B2.out hg2 (own_ne O2.out B2.out (by decide)));have hg0:=(blk_cell B3.out 1).trans rfl;have hh1:=blk_frozen B3.out 1;simp only [List.getElem?_toArray,List.getElem?_cons_zero,List.getElem?_cons_succ] at hg0;have F3:=a_ (own_other F2.out hg2 (ne_other (ne_symm N2.out)));have O3:=a_ ho2;have HB3:=a_ hb2;have K3:=a_ (K2.out.trans (KeepT.grown O2.out hg2));have N3:=a_ (ne_append' N2.out hat2 F2.out);clear ho2 hb2 hg2 hat2))
   go_ret;rw [EM.out];exact uf7f_2
 ·rw [if_neg k0,if_neg k1,if_neg k2] at h
  obtain ⟨rfl,rfl,rfl⟩:r=(false)∧fs'=fs++[(fs.length:Int)]∧ds'=ds++[0]:=by
   have:=Option.some.inj h
   simp only [Prod.mk.injEq] at this;exact ⟨this.1.symm,this.2.1.symm,this.2.2.symm⟩
  clear h;have p0:(x.f0==0)=false:=beq_eq_false_iff_ne.mpr k0
  have p1:(x.f0==1)=false:=beq_eq_false_iff_ne.mpr k1
  have p2:(x.f0==2)=false:=beq_eq_false_iff_ne.mpr k2
  clear k0 k1 k2;have BQ:=a_ (blk_alloc HT.out.1 (.cells #[.int .i64 x.f0,.int .u8 x.f1,.string x.f2,.int .i64 x.f3.f0,.int .i64 x.f3.f1,.string x.f3.f2,.int .i64 x.f4,.int .i64 x.f5] 161));have OF:=a_ (own_alloc HT.out.2.1 (.cells #[.int .i64 x.f0,.int .u8 x.f1,.string x.f2,.int .i64 x.f3.f0,.int .i64 x.f3.f1,.string x.f3.f2,.int .i64 x.f4,.int .i64 x.f5] 161));have OD:=a_ (own_alloc HT.out.2.2.1 (.cells #[.int .i64 x.f0,.int .u8 x.f1,.string x.f2,.int .i64 x.f3.f0,.int .i64 x.f3.f1,.string x.f3.f2,.int .i64 x.f4,.int .i64 x.f5] 161));have HBQ:=a_ (below_alloc HB.out (.cells #[.int .i64 x.f0,.int .u8 x.f1,.string x.f2,.int .i64 x.f3.f0,.int .i64 x.f3.f1,.string x.f3.f2,.int .i64 x.f4,.int .i64 x.f5] 161));have KQ:=a_ (KeepT.below (below_alloc (Below.refl _ w) (.cells #[.int .i64 x.f0,.int .u8 x.f1,.string x.f2,.int .i64 x.f3.f0,.int .i64 x.f3.f1,.string x.f3.f2,.int .i64 x.f4,.int .i64 x.f5] 161)));go_enter Tryz.func151,Tryz.ntmps151;exact uf7f_1
end Go.Proofs.YtahambloheoebaaGreatDoor.P
namespace Go.Proofs.YtahambloheoebaaGreatDoor.P
open Go.Proofs.YtahambloheoebaaGreatDoorX
open Go.RowKit Go.Proofs.YtahambloheoebaaGreatDoorW.PrintWords Go.Proofs.YtahambloheoebaaGreatDoorW.PrintLast Go.Proofs.YtahambloheoebaaGreatDoorW.PrintMore
attribute [local go_sem] max2_int min2_int max_two min_two max_three min_three max_four min_four
set_option linter.unusedVariables false
set_option linter.unusedSimpArgs false
open Go.Proofs.YtahambloheoebaaGreatDoorX
def impl_Action_good.g (fs:List Int):List Int→Int→Option (Bool×Int)
 | [],n=>some (true,n)
 | x::xs,n=>if 0≤x∧x<(fs.length:Int) then (if rd fs x=n then impl_Action_good.g fs xs (x+1) else some (false,n)) else some (false,n)
def impl_Action_good.f (fs:List Int) (kd K:Int) (cls:ByteArray) (xs:List Int) (n:Int):Option (Bool×Int):=
 if kd=1 then (if goodClsB cls=true then (if K=0 then (if 6<xs.length then some (false,n) else impl_Action_good.g fs xs n) else some (false,n)) else some (false,n)) else
 if kd=2 then (if cls.toList=[] then (if K < -1000000 then some (false,n) else if 1000000<K then some (false,n) else if xs=[] then some (true,n) else some (false,n)) else some (false,n)) else
 if kd=3 then (if cls.toList=[] then (if K < -1000000 then some (false,n) else if 1000000<K then some (false,n) else if 6<xs.length then some (false,n) else impl_Action_good.g fs xs n) else some (false,n)) else
 if kd=4 then (if cls.toList=[] then (if K=0 then (if xs=[] then some (true,n) else some (false,n)) else some (false,n)) else some (false,n)) else some (false,n)
theorem ag_ba {a:ByteArray} (h:a.toList=[]):a=⟨#[]⟩:=by
 rw [ByteArray.toList_eq] at h;cases a with|mk x=>
 exact congrArg ByteArray.mk (Array.toList_eq_nil_iff.1 h)
theorem ag_g_cons (fs xs:List Int) (n:Int) (i:Nat) (h:i<xs.length) (p:Bool×Int) (hg:impl_Action_good.g fs (xs.drop i) n=some p):(if 0≤rd xs (i:Int)∧rd xs (i:Int)<(fs.length:Int) then (if rd fs (rd xs (i:Int))=n then impl_Action_good.g fs (xs.drop (i+1)) (rd xs (i:Int)+1) else some (false,n)) else some (false,n))=some p:=by
 have e:rd xs (i:Int)=xs[i]:=by
  unfold rd
  simp [h]
 rw [List.drop_eq_getElem_cons h] at hg;unfold impl_Action_good.g at hg
 rw [e];exact hg
theorem u13e_3 {p:Prop} (h:p:=by
 clear c4;have HNA:=a_ (blk_alloc (blk_alloc HN.out (.cells #[.int .i64 4,.int .i64 0,.string (⟨#[]⟩:ByteArray),.slice B xs.length cB] 98)) (.cells #[.int .i64 4,.int .i64 0,.string (⟨#[]⟩:ByteArray),.slice none 0 0] 98));have HG:=a_ ((World.grownBy_alloc w (.cells #[.int .i64 4,.int .i64 0,.string (⟨#[]⟩:ByteArray),.slice B xs.length cB] 98) (some b)).trans (World.grownBy_alloc _ (.cells #[.int .i64 4,.int .i64 0,.string (⟨#[]⟩:ByteArray),.slice none 0 0] 98) (some b)));go_enter Tryz.func152,Tryz.ntmps152;go_wp2;go_ret;exact ⟨rfl,HNA.out,HG.out,HG.out.size⟩):p:=h
theorem u13e_2 {p:Prop} (h:p:=by
 clear c4;have HNA:=a_ (blk_alloc (blk_alloc HN.out (.cells #[.int .i64 2,.int .i64 K,.string (⟨#[]⟩:ByteArray),.slice B xs.length cB] 98)) (.cells #[.int .i64 2,.int .i64 K,.string (⟨#[]⟩:ByteArray),.slice none 0 0] 98));have HG:=a_ ((World.grownBy_alloc w (.cells #[.int .i64 2,.int .i64 K,.string (⟨#[]⟩:ByteArray),.slice B xs.length cB] 98) (some b)).trans (World.grownBy_alloc _ (.cells #[.int .i64 2,.int .i64 K,.string (⟨#[]⟩:ByteArray),.slice none 0 0] 98) (some b)));go_enter Tryz.func152,Tryz.ntmps152;go_wp2;go_ret;exact ⟨rfl,HNA.out,HG.out,HG.out.size⟩):p:=h
theorem u13e_0 {p:Prop} (h:p:=by
 go_loopg [77] xs.length (fun gg v77 wr=>∃(i:Nat) (m:Int),i≤xs.length∧xs.length-i≤gg∧v77=.int .i64 (i:Int)∧Aside0 (impl_Action_good.g fs (xs.drop i) m=some (r,n'))∧Aside0 (wr.heap[b]?=some (.cells #[.int .i64 m] 3 (0,0)))∧Aside0 (w.grownBy wr (some b)))
 case atStart=>exact ⟨0,n,Nat.zero_le _,Nat.le_refl _,rfl,HH,HNA,HG⟩
 obtain ⟨i,m,hi,hgg,rfl,HH2,HN2,HG2⟩:=hrel;by_cases hlt:i<xs.length
 ·have hz:(i:Int)<(xs.length:Int):=by omega
  have hz0:(0:Int)≤(i:Int):=by omega
  have HW:Aside0 (Below w0.heap.size w0 wr):=⟨HB.out.grown HG2.out HB.out.size (by intro q e;injection e with e;have:=HB0.out;omega)⟩
  obtain ⟨ad,eA,hx⟩:=Kd.at_int HX.out (i:Int) hz0 hz;subst eA;replace hx:=(HW.out.cell (World.block_lt_of_cell? w0 _ hx)).trans hx;have hstep:=ag_g_cons fs xs m i hlt _ HH2.out;have hn0:=cell_of_one HN2.out;have hnf:=free_of_one HN2.out;have hT2:=blk_grown HT.out HG2.out (by intro e;injection e with e;exact HBT.out e);have hF2:=own_other HF.out HG2.out (Or.inr (fun e=>HNE.out e.symm));have ht0:=(blk_cell hT2 0).trans rfl;simp only [List.getElem?_toArray,List.getElem?_cons_zero,List.getElem?_cons_succ] at ht0;have HF2:=a_ hF2;have HFL2:=HFL.out;clear hT2 hF2;simp only [Int.toNat_natCast] at hx;generalize rd xs (i:Int)=x at *;by_cases d1:x<0
  ·rw [if_neg (by omega)] at hstep;cases hstep;have q1:decide (x<0)=true:=decide_eq_true d1
   clear d1;go_wp2;go_quiet (fail)
   go_wp2;go_ret;exact ⟨rfl,blk_drewN HN2.out _,HG2.out.trans (grown_of_below (pw_below_drewN (Below.refl _ _) _) _),HG2.out.size⟩
  by_cases d2:(fs.length:Int)≤x
  ·rw [if_neg (by omega)] at hstep;cases hstep;have q1:decide (x<0)=false:=decide_eq_false d1
   have q2:decide ((fs.length:Int)≤x)=true:=decide_eq_true d2
   clear d1 d2;go_wp2;go_quiet (fail)
   go_wp2;go_ret;exact ⟨rfl,blk_drewN HN2.out _,HG2.out.trans (grown_of_below (pw_below_drewN (Below.refl _ _) _) _),HG2.out.size⟩
  rw [if_pos (by omega)] at hstep;have d1':0≤x:=by omega
  have d2':x<(fs.length:Int):=by omega
  obtain ⟨adf,ef,hy⟩:=(own_reads' HF2.out).at_ x d1' d2';cases ef;have q1:decide (x<0)=false:=decide_eq_false d1
  have q2:decide ((fs.length:Int)≤x)=false:=decide_eq_false d2
  clear d1 d2;by_cases d3:rd fs x=m
  ·rw [if_pos d3] at hstep;have q3:(rd fs x==m)=true:=by simpa using d3
   have q4:(rd fs x != m)=false:=by simpa using d3
   have HS2:=a_ hstep;have D3:=a_ d3;clear hstep d3;go_wp2;go_quiet (fail)
   generalize hq:wr.drewN nq=wq;have HN4:=a_ (blk_at hq HN2.out);have HG4:Aside0 (w.grownBy wq (some b)):=⟨by subst hq;exact HG2.out.trans (grown_of_below (pw_below_drewN (Below.refl _ _) _) _)⟩
   clear hq hn0 hnf ht0 hx hy;have hn4:=cell_of_one HN4.out;have hnf4:=free_of_one HN4.out;go_wp2;go_roundg (xs.length-(i+1))
   case measure=>omega
   case rel=>exact ⟨i+1,_,by omega,by omega,by rw [show wrap64 ((i:Int)+1)=((i+1:Nat):Int) by unfold wrap64;have:=HXL.out;omega],HS2,⟨one_setCell HN4.out⟩,⟨HG4.out.trans (grownBy_setCell' _ _ _)⟩⟩
  ·rw [if_neg d3] at hstep;cases hstep;have q3:(rd fs x==n')=false:=by simpa using d3
   have q4:(rd fs x != n')=true:=by simpa using d3
   clear d3;go_wp2;go_quiet (fail)
   go_wp2;go_ret;exact ⟨rfl,blk_drewN HN2.out _,HG2.out.trans (grown_of_below (pw_below_drewN (Below.refl _ _) _) _),HG2.out.size⟩
 ·have hil:i=xs.length:=by omega
  subst hil;have e0:=HH2.out;rw [List.drop_length] at e0;unfold impl_Action_good.g at e0
  cases e0;clear HH2;go_wp2;go_ret;exact ⟨rfl,HN2.out,HG2.out,HG2.out.size⟩):p:=h
theorem u13e_4 {p:Prop} (h:p:=by
 clear c4;have HNA:=a_ (blk_alloc (blk_alloc HN.out (.cells #[.int .i64 3,.int .i64 K,.string (⟨#[]⟩:ByteArray),.slice B xs.length cB] 98)) (.cells #[.int .i64 3,.int .i64 K,.string (⟨#[]⟩:ByteArray),.slice none 0 0] 98));have HG:=a_ ((World.grownBy_alloc w (.cells #[.int .i64 3,.int .i64 K,.string (⟨#[]⟩:ByteArray),.slice B xs.length cB] 98) (some b)).trans (World.grownBy_alloc _ (.cells #[.int .i64 3,.int .i64 K,.string (⟨#[]⟩:ByteArray),.slice none 0 0] 98) (some b)));go_enter Tryz.func152,Tryz.ntmps152;go_wp2;exact u13e_0):p:=h
theorem u13e_1 {p:Prop} (h:p:=by
 clear c4;go_enter Tryz.func152,Tryz.ntmps152;go_wp2_with (go_at_call 113;refine (impl_goodCls.calls cls true _ HGC.out).mono ?_;rintro e w1 ⟨rfl,hd⟩;have HNA:=a_ (blk_below (blk_alloc (blk_alloc HN.out (.cells #[.int .i64 1,.int .i64 0,.string cls,.slice B xs.length cB] 98)) (.cells #[.int .i64 1,.int .i64 0,.string cls,.slice none 0 0] 98)) hd);have HG:=a_ (((World.grownBy_alloc w (.cells #[.int .i64 1,.int .i64 0,.string cls,.slice B xs.length cB] 98) (some b)).trans (World.grownBy_alloc _ (.cells #[.int .i64 1,.int .i64 0,.string cls,.slice none 0 0] 98) (some b))).trans (grown_of_below hd (some b)));have BA1:=blk_below (blk_alloc (blk_new w (.cells #[.int .i64 1,.int .i64 0,.string cls,.slice B xs.length cB] 98)) (.cells #[.int .i64 1,.int .i64 0,.string cls,.slice none 0 0] 98)) hd;have BP1:=blk_below (blk_new1 w (.cells #[.int .i64 1,.int .i64 0,.string cls,.slice B xs.length cB] 98) (.cells #[.int .i64 1,.int .i64 0,.string cls,.slice none 0 0] 98)) hd;have ha0:=(blk_cell BA1 0).trans rfl;have ha1:=(blk_cell BA1 1).trans rfl;have ha2:=(blk_cell BA1 2).trans rfl;have ha3:=(blk_cell BA1 3).trans rfl;have hp1:=(blk_cell BP1 1).trans rfl;have hp2:=(blk_cell BP1 2).trans rfl;simp only [List.getElem?_toArray,List.getElem?_cons_zero,List.getElem?_cons_succ] at ha0 ha1 ha2 ha3 hp1 hp2;clear hd BA1 BP1);exact u13e_0):p:=h
set_option maxHeartbeats 8000000 in
set_option maxRecDepth 100000 in
theorem impl_Action_good.calls (kd K:Int) (cls:ByteArray) (B:Option Addr) (cB:Nat) (xs:List Int) (bt base:Nat) (AF:Option Addr) (cF:Nat) (vD:Value) (fs:List Int) (b:Nat) (n n':Int) (r:Bool) (w0 w:World) (hB:Below w0.heap.size w0 w) (hrx:Kd.C (Kd.int .i64) w0 B xs.length xs) (ht:w.heap[bt]?=some (.cells #[.slice AF fs.length cF,vD] 214 (0,0))) (hf:w.ownsRow base 3 1 (.slice AF fs.length cF) fs.length (nums .i64 fs)) (hne:some b≠(Value.slice AF fs.length cF).ownBlock) (hbb:w.heap[b]?=some (.cells #[.int .i64 n] 3 (0,0))) (hb0:w0.heap.size≤b) (h:impl_Action_good.f fs kd K cls xs n=some (r,n')):
  Calls Tryz.prog 152 #[.agg #[.int .i64 kd,.int .i64 K,.string cls,.slice B xs.length cB],.pointer (some ⟨bt,0,none⟩),.pointer (some ⟨b,0,none⟩)] w fun e w'=>e=.returned (.bool r)∧w'.heap[b]?=some (.cells #[.int .i64 n'] 3 (0,0))∧w.grownBy w' (some b)∧w.heap.size≤w'.heap.size:=by
 have hu2:=Tryz.underlying98;have hu3:=Tryz.underlying214;have HB:=a_ hB;have HX:=a_ hrx;have HB0:=a_ hb0;have HT:=a_ ht;have HF:=a_ hf;have HNE:=a_ hne;have HN:=a_ hbb;have HBT:Aside0 (bt≠b):=⟨blk_ne ht hbb (by decide)⟩
 have HXL:Aside0 (xs.length≤9223372036854775807):=⟨hrx.2.1⟩
 have HFL:Aside0 (fs.length≤9223372036854775807):=⟨(own_reads' hf).2.1⟩
 clear hB hrx hb0 ht hf hne hbb;unfold impl_Action_good.f at h
 by_cases k1:kd=1
 ·subst k1;rw [if_pos rfl] at h;by_cases c1:goodClsB cls=true
  ·rw [if_pos c1] at h;have HGC:Aside0 (impl_goodCls.f cls=some true):=⟨by rw [goodCls_some,c1]⟩
   clear c1;by_cases c2:K=0
   ·subst c2;rw [if_pos rfl] at h;by_cases c3:6<xs.length
    ·rw [if_pos c3] at h;cases h;have q1:decide ((6:Int)<(xs.length:Int))=true:=decide_eq_true (by omega)
     clear c3;go_enter Tryz.func152,Tryz.ntmps152;go_wp2_with (go_at_call 113;refine (impl_goodCls.calls cls true _ HGC.out).mono ?_;rintro e w1 ⟨rfl,hd⟩;have HNA:=a_ (blk_below (blk_alloc (blk_alloc HN.out (.cells #[.int .i64 1,.int .i64 0,.string cls,.slice B xs.length cB] 98)) (.cells #[.int .i64 1,.int .i64 0,.string cls,.slice none 0 0] 98)) hd);have HG:=a_ (((World.grownBy_alloc w (.cells #[.int .i64 1,.int .i64 0,.string cls,.slice B xs.length cB] 98) (some b)).trans (World.grownBy_alloc _ (.cells #[.int .i64 1,.int .i64 0,.string cls,.slice none 0 0] 98) (some b))).trans (grown_of_below hd (some b)));have BA1:=blk_below (blk_alloc (blk_new w (.cells #[.int .i64 1,.int .i64 0,.string cls,.slice B xs.length cB] 98)) (.cells #[.int .i64 1,.int .i64 0,.string cls,.slice none 0 0] 98)) hd;have BP1:=blk_below (blk_new1 w (.cells #[.int .i64 1,.int .i64 0,.string cls,.slice B xs.length cB] 98) (.cells #[.int .i64 1,.int .i64 0,.string cls,.slice none 0 0] 98)) hd;have ha0:=(blk_cell BA1 0).trans rfl;have ha1:=(blk_cell BA1 1).trans rfl;have ha2:=(blk_cell BA1 2).trans rfl;have ha3:=(blk_cell BA1 3).trans rfl;have hp1:=(blk_cell BP1 1).trans rfl;have hp2:=(blk_cell BP1 2).trans rfl;simp only [List.getElem?_toArray,List.getElem?_cons_zero,List.getElem?_cons_succ] at ha0 ha1 ha2 ha3 hp1 hp2;clear hd BA1 BP1);go_ret;exact ⟨rfl,HNA.out,HG.out,HG.out.size⟩
    ·rw [if_neg c3] at h;have HH:Aside0 (impl_Action_good.g fs (xs.drop 0) n=some (r,n')):=⟨h⟩
     have q1:decide ((6:Int)<(xs.length:Int))=false:=decide_eq_false (by omega)
     clear c3 h;by_cases c4:0<xs.length
     ·have q2:decide ((0:Int)<(xs.length:Int))=true:=decide_eq_true (by omega)
      have q3:decide (0<xs.length)=true:=decide_eq_true (by omega)
      exact u13e_1
     ·have q2:decide ((0:Int)<(xs.length:Int))=false:=decide_eq_false (by omega)
      have q3:decide (0<xs.length)=false:=decide_eq_false (by omega)
      exact u13e_1
   ·rw [if_neg c2] at h;cases h;have q3:((0:Int)==K)=false:=by simpa using Ne.symm c2
    have q4:((0:Int) != K)=true:=by simpa using Ne.symm c2
    clear c2;go_enter Tryz.func152,Tryz.ntmps152;go_wp2_with (go_at_call 113;refine (impl_goodCls.calls cls true _ HGC.out).mono ?_;rintro e w1 ⟨rfl,hd⟩;have HNA:=a_ (blk_below (blk_alloc (blk_alloc HN.out (.cells #[.int .i64 1,.int .i64 K,.string cls,.slice B xs.length cB] 98)) (.cells #[.int .i64 1,.int .i64 0,.string cls,.slice none 0 0] 98)) hd);have HG:=a_ (((World.grownBy_alloc w (.cells #[.int .i64 1,.int .i64 K,.string cls,.slice B xs.length cB] 98) (some b)).trans (World.grownBy_alloc _ (.cells #[.int .i64 1,.int .i64 0,.string cls,.slice none 0 0] 98) (some b))).trans (grown_of_below hd (some b)));have BA1:=blk_below (blk_alloc (blk_new w (.cells #[.int .i64 1,.int .i64 K,.string cls,.slice B xs.length cB] 98)) (.cells #[.int .i64 1,.int .i64 0,.string cls,.slice none 0 0] 98)) hd;have BP1:=blk_below (blk_new1 w (.cells #[.int .i64 1,.int .i64 K,.string cls,.slice B xs.length cB] 98) (.cells #[.int .i64 1,.int .i64 0,.string cls,.slice none 0 0] 98)) hd;have ha0:=(blk_cell BA1 0).trans rfl;have ha1:=(blk_cell BA1 1).trans rfl;have ha2:=(blk_cell BA1 2).trans rfl;have ha3:=(blk_cell BA1 3).trans rfl;have hp1:=(blk_cell BP1 1).trans rfl;have hp2:=(blk_cell BP1 2).trans rfl;simp only [List.getElem?_toArray,List.getElem?_cons_zero,List.getElem?_cons_succ] at ha0 ha1 ha2 ha3 hp1 hp2;clear hd BA1 BP1);go_ret;exact ⟨rfl,HNA.out,HG.out,HG.out.size⟩
  ·rw [if_neg c1] at h;cases h;have HGC:Aside0 (impl_goodCls.f cls=some false):=⟨by rw [goodCls_some,Bool.eq_false_iff.2 c1]⟩
   clear c1;go_enter Tryz.func152,Tryz.ntmps152;go_wp2_with (go_at_call 113;refine (impl_goodCls.calls cls false _ HGC.out).mono ?_;rintro e w1 ⟨rfl,hd⟩;have HNA:=a_ (blk_below (blk_alloc (blk_alloc HN.out (.cells #[.int .i64 1,.int .i64 K,.string cls,.slice B xs.length cB] 98)) (.cells #[.int .i64 1,.int .i64 0,.string cls,.slice none 0 0] 98)) hd);have HG:=a_ (((World.grownBy_alloc w (.cells #[.int .i64 1,.int .i64 K,.string cls,.slice B xs.length cB] 98) (some b)).trans (World.grownBy_alloc _ (.cells #[.int .i64 1,.int .i64 0,.string cls,.slice none 0 0] 98) (some b))).trans (grown_of_below hd (some b)));have BA1:=blk_below (blk_alloc (blk_new w (.cells #[.int .i64 1,.int .i64 K,.string cls,.slice B xs.length cB] 98)) (.cells #[.int .i64 1,.int .i64 0,.string cls,.slice none 0 0] 98)) hd;have BP1:=blk_below (blk_new1 w (.cells #[.int .i64 1,.int .i64 K,.string cls,.slice B xs.length cB] 98) (.cells #[.int .i64 1,.int .i64 0,.string cls,.slice none 0 0] 98)) hd;have ha0:=(blk_cell BA1 0).trans rfl;have ha1:=(blk_cell BA1 1).trans rfl;have ha2:=(blk_cell BA1 2).trans rfl;have ha3:=(blk_cell BA1 3).trans rfl;have hp1:=(blk_cell BP1 1).trans rfl;have hp2:=(blk_cell BP1 2).trans rfl;simp only [List.getElem?_toArray,List.getElem?_cons_zero,List.getElem?_cons_succ] at ha0 ha1 ha2 ha3 hp1 hp2;clear hd BA1 BP1);go_ret;exact ⟨rfl,HNA.out,HG.out,HG.out.size⟩
 by_cases k2:kd=2
 ·subst k2;clear k1;rw [if_neg (by decide),if_pos rfl] at h;by_cases c2:cls.toList=[]
  ·rw [if_pos c2] at h;have c3:cls=⟨#[]⟩:=ag_ba c2
   subst c3;clear c2;by_cases c4:K < -1000000
   ·rw [if_pos c4] at h;cases h;have q4:decide (K < -1000000)=true:=ct_ c4
    clear c4;have HNA:=a_ (blk_alloc (blk_alloc HN.out (.cells #[.int .i64 2,.int .i64 K,.string (⟨#[]⟩:ByteArray),.slice B xs.length cB] 98)) (.cells #[.int .i64 2,.int .i64 K,.string (⟨#[]⟩:ByteArray),.slice none 0 0] 98));have HG:=a_ ((World.grownBy_alloc w (.cells #[.int .i64 2,.int .i64 K,.string (⟨#[]⟩:ByteArray),.slice B xs.length cB] 98) (some b)).trans (World.grownBy_alloc _ (.cells #[.int .i64 2,.int .i64 K,.string (⟨#[]⟩:ByteArray),.slice none 0 0] 98) (some b)));go_enter Tryz.func152,Tryz.ntmps152;go_wp2;go_ret;exact ⟨rfl,HNA.out,HG.out,HG.out.size⟩
   rw [if_neg c4] at h;have q4:decide (K < -1000000)=false:=cf_ c4
   clear c4;by_cases c5:1000000<K
   ·rw [if_pos c5] at h;cases h;have q5:decide (1000000<K)=true:=ct_ c5
    clear c5;have HNA:=a_ (blk_alloc (blk_alloc HN.out (.cells #[.int .i64 2,.int .i64 K,.string (⟨#[]⟩:ByteArray),.slice B xs.length cB] 98)) (.cells #[.int .i64 2,.int .i64 K,.string (⟨#[]⟩:ByteArray),.slice none 0 0] 98));have HG:=a_ ((World.grownBy_alloc w (.cells #[.int .i64 2,.int .i64 K,.string (⟨#[]⟩:ByteArray),.slice B xs.length cB] 98) (some b)).trans (World.grownBy_alloc _ (.cells #[.int .i64 2,.int .i64 K,.string (⟨#[]⟩:ByteArray),.slice none 0 0] 98) (some b)));go_enter Tryz.func152,Tryz.ntmps152;go_wp2;go_ret;exact ⟨rfl,HNA.out,HG.out,HG.out.size⟩
   rw [if_neg c5] at h;have q5:decide (1000000<K)=false:=cf_ c5
   clear c5;by_cases c1:xs=[]
   ·subst c1;rw [if_pos rfl] at h;cases h;have HNA:=a_ (blk_alloc (blk_alloc HN.out (.cells #[.int .i64 2,.int .i64 K,.string (⟨#[]⟩:ByteArray),.slice B 0 cB] 98)) (.cells #[.int .i64 2,.int .i64 K,.string (⟨#[]⟩:ByteArray),.slice none 0 0] 98));have HG:=a_ ((World.grownBy_alloc w (.cells #[.int .i64 2,.int .i64 K,.string (⟨#[]⟩:ByteArray),.slice B 0 cB] 98) (some b)).trans (World.grownBy_alloc _ (.cells #[.int .i64 2,.int .i64 K,.string (⟨#[]⟩:ByteArray),.slice none 0 0] 98) (some b)));go_enter Tryz.func152,Tryz.ntmps152;go_wp2;go_loopg [77] 0 (fun gg v77 wr=>v77=.int .i64 0∧Aside0 (wr.heap[b]?=some (.cells #[.int .i64 n] 3 (0,0)))∧Aside0 (w.grownBy wr (some b)))
    case atStart=>exact ⟨rfl,HNA,HG⟩
    obtain ⟨rfl,HN2,HG2⟩:=hrel;go_wp2;go_ret;exact ⟨rfl,HN2.out,HG2.out,HG2.out.size⟩
   ·rw [if_neg c1] at h;cases h;have c3:0<xs.length:=by cases xs with|nil=>exact absurd rfl c1|cons a l=>simp
    have q2:decide ((0:Int)<(xs.length:Int))=true:=decide_eq_true (by omega)
    have q3:decide (0<xs.length)=true:=ct_ c3
    clear c1 c3;by_cases c4:6<xs.length
    ·have q1:decide ((6:Int)<(xs.length:Int))=true:=decide_eq_true (by omega)
     exact u13e_2
    ·have q1:decide ((6:Int)<(xs.length:Int))=false:=decide_eq_false (by omega)
     exact u13e_2
  ·rw [if_neg c2] at h;cases h;have s1:(cls.toList==([]:List UInt8))=false:=beq_eq_false_iff_ne.mpr c2
   have s2:(([]:List UInt8)==cls.toList)=false:=beq_eq_false_iff_ne.mpr (Ne.symm c2)
   have s3:cls.toList.isEmpty=false:=by simpa using c2
   have s4:(([]:List UInt8) != cls.toList)=true:=bne_iff_ne.mpr (Ne.symm c2)
   have s5:(cls.toList != ([]:List UInt8))=true:=bne_iff_ne.mpr c2
   clear c2;have HNA:=a_ (blk_alloc (blk_alloc HN.out (.cells #[.int .i64 2,.int .i64 K,.string cls,.slice B xs.length cB] 98)) (.cells #[.int .i64 2,.int .i64 K,.string (⟨#[]⟩:ByteArray),.slice none 0 0] 98));have HG:=a_ ((World.grownBy_alloc w (.cells #[.int .i64 2,.int .i64 K,.string cls,.slice B xs.length cB] 98) (some b)).trans (World.grownBy_alloc _ (.cells #[.int .i64 2,.int .i64 K,.string (⟨#[]⟩:ByteArray),.slice none 0 0] 98) (some b)));go_enter Tryz.func152,Tryz.ntmps152;go_wp2;go_ret;exact ⟨rfl,HNA.out,HG.out,HG.out.size⟩
 by_cases k3:kd=3
 ·subst k3;clear k1 k2;rw [if_neg (by decide),if_neg (by decide),if_pos rfl] at h;by_cases c2:cls.toList=[]
  ·rw [if_pos c2] at h;have c3:cls=⟨#[]⟩:=ag_ba c2
   subst c3;clear c2;by_cases c4:K < -1000000
   ·rw [if_pos c4] at h;cases h;have q4:decide (K < -1000000)=true:=ct_ c4
    clear c4;have HNA:=a_ (blk_alloc (blk_alloc HN.out (.cells #[.int .i64 3,.int .i64 K,.string (⟨#[]⟩:ByteArray),.slice B xs.length cB] 98)) (.cells #[.int .i64 3,.int .i64 K,.string (⟨#[]⟩:ByteArray),.slice none 0 0] 98));have HG:=a_ ((World.grownBy_alloc w (.cells #[.int .i64 3,.int .i64 K,.string (⟨#[]⟩:ByteArray),.slice B xs.length cB] 98) (some b)).trans (World.grownBy_alloc _ (.cells #[.int .i64 3,.int .i64 K,.string (⟨#[]⟩:ByteArray),.slice none 0 0] 98) (some b)));go_enter Tryz.func152,Tryz.ntmps152;go_wp2;go_ret;exact ⟨rfl,HNA.out,HG.out,HG.out.size⟩
   rw [if_neg c4] at h;have q4:decide (K < -1000000)=false:=cf_ c4
   clear c4;by_cases c5:1000000<K
   ·rw [if_pos c5] at h;cases h;have q5:decide (1000000<K)=true:=ct_ c5
    clear c5;have HNA:=a_ (blk_alloc (blk_alloc HN.out (.cells #[.int .i64 3,.int .i64 K,.string (⟨#[]⟩:ByteArray),.slice B xs.length cB] 98)) (.cells #[.int .i64 3,.int .i64 K,.string (⟨#[]⟩:ByteArray),.slice none 0 0] 98));have HG:=a_ ((World.grownBy_alloc w (.cells #[.int .i64 3,.int .i64 K,.string (⟨#[]⟩:ByteArray),.slice B xs.length cB] 98) (some b)).trans (World.grownBy_alloc _ (.cells #[.int .i64 3,.int .i64 K,.string (⟨#[]⟩:ByteArray),.slice none 0 0] 98) (some b)));go_enter Tryz.func152,Tryz.ntmps152;go_wp2;go_ret;exact ⟨rfl,HNA.out,HG.out,HG.out.size⟩
   rw [if_neg c5] at h;have q5:decide (1000000<K)=false:=cf_ c5
   clear c5;by_cases c3:6<xs.length
   ·rw [if_pos c3] at h;cases h;have q1:decide ((6:Int)<(xs.length:Int))=true:=decide_eq_true (by omega)
    clear c3;have HNA:=a_ (blk_alloc (blk_alloc HN.out (.cells #[.int .i64 3,.int .i64 K,.string (⟨#[]⟩:ByteArray),.slice B xs.length cB] 98)) (.cells #[.int .i64 3,.int .i64 K,.string (⟨#[]⟩:ByteArray),.slice none 0 0] 98));have HG:=a_ ((World.grownBy_alloc w (.cells #[.int .i64 3,.int .i64 K,.string (⟨#[]⟩:ByteArray),.slice B xs.length cB] 98) (some b)).trans (World.grownBy_alloc _ (.cells #[.int .i64 3,.int .i64 K,.string (⟨#[]⟩:ByteArray),.slice none 0 0] 98) (some b)));go_enter Tryz.func152,Tryz.ntmps152;go_wp2;go_ret;exact ⟨rfl,HNA.out,HG.out,HG.out.size⟩
   ·rw [if_neg c3] at h;have HH:Aside0 (impl_Action_good.g fs (xs.drop 0) n=some (r,n')):=⟨h⟩
    have q1:decide ((6:Int)<(xs.length:Int))=false:=decide_eq_false (by omega)
    clear c3 h;by_cases c4:0<xs.length
    ·have q2:decide ((0:Int)<(xs.length:Int))=true:=decide_eq_true (by omega)
     have q3:decide (0<xs.length)=true:=decide_eq_true (by omega)
     exact u13e_4
    ·have q2:decide ((0:Int)<(xs.length:Int))=false:=decide_eq_false (by omega)
     have q3:decide (0<xs.length)=false:=decide_eq_false (by omega)
     exact u13e_4
  ·rw [if_neg c2] at h;cases h;have s1:(cls.toList==([]:List UInt8))=false:=beq_eq_false_iff_ne.mpr c2
   have s2:(([]:List UInt8)==cls.toList)=false:=beq_eq_false_iff_ne.mpr (Ne.symm c2)
   have s3:cls.toList.isEmpty=false:=by simpa using c2
   have s4:(([]:List UInt8) != cls.toList)=true:=bne_iff_ne.mpr (Ne.symm c2)
   have s5:(cls.toList != ([]:List UInt8))=true:=bne_iff_ne.mpr c2
   clear c2;have HNA:=a_ (blk_alloc (blk_alloc HN.out (.cells #[.int .i64 3,.int .i64 K,.string cls,.slice B xs.length cB] 98)) (.cells #[.int .i64 3,.int .i64 K,.string (⟨#[]⟩:ByteArray),.slice none 0 0] 98));have HG:=a_ ((World.grownBy_alloc w (.cells #[.int .i64 3,.int .i64 K,.string cls,.slice B xs.length cB] 98) (some b)).trans (World.grownBy_alloc _ (.cells #[.int .i64 3,.int .i64 K,.string (⟨#[]⟩:ByteArray),.slice none 0 0] 98) (some b)));go_enter Tryz.func152,Tryz.ntmps152;go_wp2;go_ret;exact ⟨rfl,HNA.out,HG.out,HG.out.size⟩
 by_cases k4:kd=4
 ·subst k4;clear k1 k2 k3;rw [if_neg (by decide),if_neg (by decide),if_neg (by decide),if_pos rfl] at h;by_cases c2:cls.toList=[]
  ·rw [if_pos c2] at h;have c3:cls=⟨#[]⟩:=ag_ba c2
   subst c3;clear c2;by_cases c4:K=0
   rotate_left
   ·rw [if_neg c4] at h;cases h;have q4:((0:Int)==K)=false:=by simpa using Ne.symm c4
    have q5:((0:Int) != K)=true:=by simpa using Ne.symm c4
    clear c4;have HNA:=a_ (blk_alloc (blk_alloc HN.out (.cells #[.int .i64 4,.int .i64 K,.string (⟨#[]⟩:ByteArray),.slice B xs.length cB] 98)) (.cells #[.int .i64 4,.int .i64 0,.string (⟨#[]⟩:ByteArray),.slice none 0 0] 98));have HG:=a_ ((World.grownBy_alloc w (.cells #[.int .i64 4,.int .i64 K,.string (⟨#[]⟩:ByteArray),.slice B xs.length cB] 98) (some b)).trans (World.grownBy_alloc _ (.cells #[.int .i64 4,.int .i64 0,.string (⟨#[]⟩:ByteArray),.slice none 0 0] 98) (some b)));go_enter Tryz.func152,Tryz.ntmps152;go_wp2;go_ret;exact ⟨rfl,HNA.out,HG.out,HG.out.size⟩
   subst c4;rw [if_pos rfl] at h;by_cases c1:xs=[]
   ·subst c1;rw [if_pos rfl] at h;cases h;have HNA:=a_ (blk_alloc (blk_alloc HN.out (.cells #[.int .i64 4,.int .i64 0,.string (⟨#[]⟩:ByteArray),.slice B 0 cB] 98)) (.cells #[.int .i64 4,.int .i64 0,.string (⟨#[]⟩:ByteArray),.slice none 0 0] 98));have HG:=a_ ((World.grownBy_alloc w (.cells #[.int .i64 4,.int .i64 0,.string (⟨#[]⟩:ByteArray),.slice B 0 cB] 98) (some b)).trans (World.grownBy_alloc _ (.cells #[.int .i64 4,.int .i64 0,.string (⟨#[]⟩:ByteArray),.slice none 0 0] 98) (some b)));go_enter Tryz.func152,Tryz.ntmps152;go_wp2;go_loopg [77] 0 (fun gg v77 wr=>v77=.int .i64 0∧Aside0 (wr.heap[b]?=some (.cells #[.int .i64 n] 3 (0,0)))∧Aside0 (w.grownBy wr (some b)))
    case atStart=>exact ⟨rfl,HNA,HG⟩
    obtain ⟨rfl,HN2,HG2⟩:=hrel;go_wp2;go_ret;exact ⟨rfl,HN2.out,HG2.out,HG2.out.size⟩
   ·rw [if_neg c1] at h;cases h;have c3:0<xs.length:=by cases xs with|nil=>exact absurd rfl c1|cons a l=>simp
    have q2:decide ((0:Int)<(xs.length:Int))=true:=decide_eq_true (by omega)
    have q3:decide (0<xs.length)=true:=ct_ c3
    clear c1 c3;by_cases c4:6<xs.length
    ·have q1:decide ((6:Int)<(xs.length:Int))=true:=decide_eq_true (by omega)
     exact u13e_3
    ·have q1:decide ((6:Int)<(xs.length:Int))=false:=decide_eq_false (by omega)
     exact u13e_3
  ·rw [if_neg c2] at h;cases h;have s1:(cls.toList==([]:List UInt8))=false:=beq_eq_false_iff_ne.mpr c2
   have s2:(([]:List UInt8)==cls.toList)=false:=beq_eq_false_iff_ne.mpr (Ne.symm c2)
   have s3:cls.toList.isEmpty=false:=by simpa using c2
   have s4:(([]:List UInt8) != cls.toList)=true:=bne_iff_ne.mpr (Ne.symm c2)
   have s5:(cls.toList != ([]:List UInt8))=true:=bne_iff_ne.mpr c2
   clear c2;have HNA:=a_ (blk_alloc (blk_alloc HN.out (.cells #[.int .i64 4,.int .i64 K,.string cls,.slice B xs.length cB] 98)) (.cells #[.int .i64 4,.int .i64 0,.string (⟨#[]⟩:ByteArray),.slice none 0 0] 98));have HG:=a_ ((World.grownBy_alloc w (.cells #[.int .i64 4,.int .i64 K,.string cls,.slice B xs.length cB] 98) (some b)).trans (World.grownBy_alloc _ (.cells #[.int .i64 4,.int .i64 0,.string (⟨#[]⟩:ByteArray),.slice none 0 0] 98) (some b)));go_enter Tryz.func152,Tryz.ntmps152;go_wp2;go_ret;exact ⟨rfl,HNA.out,HG.out,HG.out.size⟩
 rw [if_neg k1,if_neg k2,if_neg k3,if_neg k4] at h;cases h;have p1:(kd==1)=false:=by simpa using k1
 have p2:(kd==2)=false:=by simpa using k2
 have p3:(kd==3)=false:=by simpa using k3
 have p4:(kd==4)=false:=by simpa using k4
 clear k1 k2 k3 k4;have HNA:=a_ (blk_alloc (blk_alloc HN.out (.cells #[.int .i64 kd,.int .i64 K,.string cls,.slice B xs.length cB] 98)) (.cells #[.int .i64 kd,.int .i64 0,.string (⟨#[]⟩:ByteArray),.slice none 0 0] 98));have HG:=a_ ((World.grownBy_alloc w (.cells #[.int .i64 kd,.int .i64 K,.string cls,.slice B xs.length cB] 98) (some b)).trans (World.grownBy_alloc _ (.cells #[.int .i64 kd,.int .i64 0,.string (⟨#[]⟩:ByteArray),.slice none 0 0] 98) (some b)));go_enter Tryz.func152,Tryz.ntmps152;go_wp2;go_ret;exact ⟨rfl,HNA.out,HG.out,HG.out.size⟩
end Go.Proofs.YtahambloheoebaaGreatDoor.P
namespace Go.Proofs.YtahambloheoebaaGreatDoor.P
open Go.Proofs.YtahambloheoebaaGreatDoorX
open Go.RowKit Go.Proofs.YtahambloheoebaaGreatDoorW.PrintWords Go.Proofs.YtahambloheoebaaGreatDoorW.PrintLast Go.Proofs.YtahambloheoebaaGreatDoorW.PrintMore
attribute [local go_sem] max2_int min2_int max_two min_two max_three min_three max_four min_four
set_option linter.unusedVariables false
set_option linter.unusedSimpArgs false
open Go.Proofs.YtahambloheoebaaGreatDoorX
def sf_p:List S42→Nat→Int
 | [],_=>-1
 | p::ps,i=>if goodPatB p.f1 p.f2=true then sf_p ps (i+1) else (i:Int)+1
def sf_e (es:List S161):Nat→List Int→List Int→Option (Int×List Int×List Int)
 | 0,fs,ds=>some (-1,fs,ds)
 | m+1,fs,ds=>(impl_trees_grow.f es fs ds).bind fun y=>if y.1=true then sf_e es m y.2.1 y.2.2 else some ((fs.length:Int)+1,y.2.1,y.2.2)
def sf_a (fs:List Int):List S98→Nat→Int→Option (Int×Int)
 | [],_,n=>some (-1,n)
 | a::as_,i,n=>(impl_Action_good.f fs a.f0 a.f1 a.f2 a.f3 n).bind fun y=>if y.1=true then sf_a fs as_ (i+1) y.2 else some ((i:Int)+1,y.2)
def impl_Rule_shapeFault.f (nm:ByteArray) (sa:Int) (ps:List S42) (es:List S161) (as_:List S98):Option Int:=
 if goodSymB nm=true then (if 6<ps.length then some 0 else if 8<as_.length then some 0 else if 60<es.length then some 0 else
  if sf_p ps 0=-1 then (sf_e es es.length [] []).bind fun e=>if e.1=-1 then (sf_a e.2.1 as_ 0 0).bind fun a=>if a.1=-1 then (if a.2=(es.length:Int) then some (-1) else some ((as_.length:Int)+1)) else some a.1 else some e.1 else some (sf_p ps 0)) else some 0
theorem sf_p_cons (ps:List S42) (i:Nat) (h:i<ps.length) (p:Int) (hg:sf_p (ps.drop i) i=p):(if goodPatB (rd_T42 ps (i:Int)).f1 (rd_T42 ps (i:Int)).f2=true then sf_p (ps.drop (i+1)) (i+1) else (i:Int)+1)=p:=by
 have e:rd_T42 ps (i:Int)=ps[i]:=by
  unfold rd_T42
  simp [h]
 rw [List.drop_eq_getElem_cons h] at hg;unfold sf_p at hg
 rw [e];exact hg
theorem sf_e_cons (es:List S161) (m i:Nat) (h:i<m) (fs ds:List Int) (p:Int×List Int×List Int) (hg:sf_e es (m-i) fs ds=some p):((impl_trees_grow.f es fs ds).bind fun y=>if y.1=true then sf_e es (m-(i+1)) y.2.1 y.2.2 else some ((fs.length:Int)+1,y.2.1,y.2.2))=some p:=by
 rw [show m-i=(m-(i+1))+1 by omega] at hg;exact hg
theorem sf_a_cons (fs:List Int) (as_:List S98) (i:Nat) (n:Int) (h:i<as_.length) (p:Int×Int) (hg:sf_a fs (as_.drop i) i n=some p):((impl_Action_good.f fs (rd_T98 as_ (i:Int)).f0 (rd_T98 as_ (i:Int)).f1 (rd_T98 as_ (i:Int)).f2 (rd_T98 as_ (i:Int)).f3 n).bind fun y=>if y.1=true then sf_a fs (as_.drop (i+1)) (i+1) y.2 else some ((i:Int)+1,y.2))=some p:=by
 have e:rd_T98 as_ (i:Int)=as_[i]:=by
  unfold rd_T98
  simp [h]
 rw [List.drop_eq_getElem_cons h] at hg;unfold sf_a at hg
 rw [e];exact hg
theorem grow_len {es:List S161} {fs ds fs' ds':List Int} {r:Bool} (h:impl_trees_grow.f es fs ds=some (r,fs',ds')):fs'.length=fs.length+1∧ds'.length=ds.length+1:=by
 unfold impl_trees_grow.f at h
 split at h
 ·dsimp only at h
  repeat' split at h
  all_goals first|(cases h;done)|(have:=Option.some.inj h;simp only [Prod.mk.injEq] at this;obtain ⟨_,rfl,rfl⟩:=this;simp)
 ·cases h
set_option maxHeartbeats 8000000 in
set_option maxRecDepth 100000 in
theorem impl_Rule_shapeFault.walk (nm:ByteArray) (sa:Int) (A2:Option Addr) (c2:Nat) (ps:List S42) (A3:Option Addr) (c3:Nat) (es:List S161) (A4:Option Addr) (c4:Nat) (as_:List S98) (r:Int) (w:World) (hr2:Kd.C k42 w A2 ps.length ps) (hr3:Kd.C k161 w A3 es.length es) (hc3:es.length≤c3) (hr4:Kd.C k98 w A4 as_.length as_) (h:impl_Rule_shapeFault.f nm sa ps es as_=some r):
  Calls Tryz.prog 109 #[.agg #[.string nm,.int .i64 sa,.slice A2 ps.length c2,.slice A3 es.length c3,.slice A4 as_.length c4]] w fun e w'=>e=.returned (.int .i64 r)∧Below w.heap.size w w':=by
 have hu:=Tryz.underlying39;have hu2:=Tryz.underlying98;have hu3:=Tryz.underlying42;have hu4:=Tryz.underlying214;have HB:=a_ (below_alloc (Below.refl w.heap.size w) (.cells #[.string nm,.int .i64 sa,.slice A2 ps.length c2,.slice A3 es.length c3,.slice A4 as_.length c4] 39));have BK:=a_ (blk_new w (.cells #[.string nm,.int .i64 sa,.slice A2 ps.length c2,.slice A3 es.length c3,.slice A4 as_.length c4] 39));have HR2:=a_ hr2;have HR3:=a_ hr3;have HC3:=a_ hc3;have HR4:=a_ hr4;clear hr2 hr3 hc3 hr4;unfold impl_Rule_shapeFault.f at h
 cases hg:goodSymB nm with
 | false=>
  rw [hg,if_neg (by simp)] at h;cases h;have HG:Aside0 (impl_goodSym.f nm=some false):=⟨by unfold impl_goodSym.f;rw [hg]⟩
  clear hg;go_enter Tryz.func109,Tryz.ntmps109;go_wp2_with (go_at_call 67;refine (impl_goodSym.calls nm false _ HG.out).mono ?_;rintro e w1 ⟨rfl,hd⟩;have HB1:Aside0 (Below w.heap.size w w1):=⟨below_step HB.out hd⟩;have BK1:=a_ (blk_below BK.out hd);have ha0:=(blk_cell BK1.out 0).trans rfl;have ha1:=(blk_cell BK1.out 1).trans rfl;have ha2:=(blk_cell BK1.out 2).trans rfl;have ha3:=(blk_cell BK1.out 3).trans rfl;have ha4:=(blk_cell BK1.out 4).trans rfl;simp only [List.getElem?_toArray,List.getElem?_cons_zero,List.getElem?_cons_succ] at ha0 ha1 ha2 ha3 ha4;clear hd);go_ret;exact ⟨rfl,HB1.out⟩
 | true=>
 rw [hg,if_pos rfl] at h;have HG:Aside0 (impl_goodSym.f nm=some true):=⟨by unfold impl_goodSym.f;rw [hg]⟩
 clear hg;by_cases c1:6<ps.length
 ·rw [if_pos c1] at h;cases h;have q1:decide ((6:Int)<(ps.length:Int))=true:=decide_eq_true (by omega)
  clear c1;go_enter Tryz.func109,Tryz.ntmps109;go_wp2_with (go_at_call 67;refine (impl_goodSym.calls nm true _ HG.out).mono ?_;rintro e w1 ⟨rfl,hd⟩;have HB1:Aside0 (Below w.heap.size w w1):=⟨below_step HB.out hd⟩;have BK1:=a_ (blk_below BK.out hd);have ha0:=(blk_cell BK1.out 0).trans rfl;have ha1:=(blk_cell BK1.out 1).trans rfl;have ha2:=(blk_cell BK1.out 2).trans rfl;have ha3:=(blk_cell BK1.out 3).trans rfl;have ha4:=(blk_cell BK1.out 4).trans rfl;simp only [List.getElem?_toArray,List.getElem?_cons_zero,List.getElem?_cons_succ] at ha0 ha1 ha2 ha3 ha4;clear hd);go_ret;exact ⟨rfl,HB1.out⟩
 rw [if_neg c1] at h;have q1:decide ((6:Int)<(ps.length:Int))=false:=decide_eq_false (by omega)
 by_cases c2:8<as_.length
 ·rw [if_pos c2] at h;cases h;have q2:decide ((8:Int)<(as_.length:Int))=true:=decide_eq_true (by omega)
  clear c1 c2;go_enter Tryz.func109,Tryz.ntmps109;go_wp2_with (go_at_call 67;refine (impl_goodSym.calls nm true _ HG.out).mono ?_;rintro e w1 ⟨rfl,hd⟩;have HB1:Aside0 (Below w.heap.size w w1):=⟨below_step HB.out hd⟩;have BK1:=a_ (blk_below BK.out hd);have ha0:=(blk_cell BK1.out 0).trans rfl;have ha1:=(blk_cell BK1.out 1).trans rfl;have ha2:=(blk_cell BK1.out 2).trans rfl;have ha3:=(blk_cell BK1.out 3).trans rfl;have ha4:=(blk_cell BK1.out 4).trans rfl;simp only [List.getElem?_toArray,List.getElem?_cons_zero,List.getElem?_cons_succ] at ha0 ha1 ha2 ha3 ha4;clear hd);go_ret;exact ⟨rfl,HB1.out⟩
 rw [if_neg c2] at h;have q2:decide ((8:Int)<(as_.length:Int))=false:=decide_eq_false (by omega)
 by_cases c3:60<es.length
 ·rw [if_pos c3] at h;cases h;have q3:decide ((60:Int)<(es.length:Int))=true:=decide_eq_true (by omega)
  clear c1 c2 c3;go_enter Tryz.func109,Tryz.ntmps109;go_wp2_with (go_at_call 67;refine (impl_goodSym.calls nm true _ HG.out).mono ?_;rintro e w1 ⟨rfl,hd⟩;have HB1:Aside0 (Below w.heap.size w w1):=⟨below_step HB.out hd⟩;have BK1:=a_ (blk_below BK.out hd);have ha0:=(blk_cell BK1.out 0).trans rfl;have ha1:=(blk_cell BK1.out 1).trans rfl;have ha2:=(blk_cell BK1.out 2).trans rfl;have ha3:=(blk_cell BK1.out 3).trans rfl;have ha4:=(blk_cell BK1.out 4).trans rfl;simp only [List.getElem?_toArray,List.getElem?_cons_zero,List.getElem?_cons_succ] at ha0 ha1 ha2 ha3 ha4;clear hd);go_ret;exact ⟨rfl,HB1.out⟩
 rw [if_neg c3] at h;have q3:decide ((60:Int)<(es.length:Int))=false:=decide_eq_false (by omega)
 have C1:Aside0 (ps.length≤6):=⟨by omega⟩
 have C2:Aside0 (as_.length≤8):=⟨by omega⟩
 have C3:Aside0 (es.length≤60):=⟨by omega⟩
 clear c1 c2 c3;obtain ⟨p,hp⟩:∃p,sf_p ps 0=p:=⟨_,rfl⟩;rw [hp] at h;have HP:Aside0 (sf_p (ps.drop 0) 0=p):=⟨hp⟩
 have HH:=a_ h;clear hp h;go_enter Tryz.func109,Tryz.ntmps109;go_wp2_with (go_at_call 67;refine (impl_goodSym.calls nm true _ HG.out).mono ?_;rintro e w1 ⟨rfl,hd⟩;have HB1:Aside0 (Below w.heap.size w w1):=⟨below_step HB.out hd⟩;have BK1:=a_ (blk_below BK.out hd);have ha0:=(blk_cell BK1.out 0).trans rfl;have ha1:=(blk_cell BK1.out 1).trans rfl;have ha2:=(blk_cell BK1.out 2).trans rfl;have ha3:=(blk_cell BK1.out 3).trans rfl;have ha4:=(blk_cell BK1.out 4).trans rfl;simp only [List.getElem?_toArray,List.getElem?_cons_zero,List.getElem?_cons_succ] at ha0 ha1 ha2 ha3 ha4;clear hd);go_loopg [35] ps.length (fun gg v35 wr=>∃i:Nat,i≤ps.length∧ps.length-i≤gg∧v35=.int .i64 (i:Int)∧Aside0 (sf_p (ps.drop i) i=p)∧Aside0 (Below w.heap.size w wr)∧Aside0 (wr.heap[w.heap.size]?=some (.cells #[.string nm,.int .i64 sa,.slice A2 ps.length c2,.slice A3 es.length c3,.slice A4 as_.length c4] 39 (0,0))))
 case atStart=>exact ⟨0,Nat.zero_le _,Nat.le_refl _,rfl,HP,HB1,BK1⟩
 obtain ⟨i,hi,hgg,rfl,HP2,HB2,BK2⟩:=hrel;by_cases hlt:i<ps.length
 ·have hz:(i:Int)<(ps.length:Int):=by omega
  have hz0:(0:Int)≤(i:Int):=by omega
  obtain ⟨ad,A5,c5,e0,hx0,hx1,hx2,hl5,hC5⟩:=at_T42 HR2.out (i:Int) hz0 hz;cases e0;replace hx0:=(HB2.out.cell (World.block_lt_of_cell? w _ hx0)).trans hx0;replace hx1:=(HB2.out.cell (World.block_lt_of_cell? w _ hx1)).trans hx1;replace hx2:=(HB2.out.cell (World.block_lt_of_cell? w _ hx2)).trans hx2;simp only [Int.toNat_natCast] at hx0 hx1 hx2;have HC5:=a_ hC5;have HL5:=a_ hl5;clear hC5 hl5;have hst:=sf_p_cons ps i hlt p HP2.out;generalize rd_T42 ps (i:Int)=p5 at *;cases hg5:goodPatB p5.f1 p5.f2 with
  | false=>
   have HG5:Aside0 (impl_Pattern_good.f p5.f0 p5.f1 p5.f2=some false):=⟨by unfold impl_Pattern_good.f;rw [hg5]⟩
   rw [hg5,if_neg (by simp)] at hst;clear hg5;have hrr:=HH.out;rw [if_neg (by omega)] at hrr;have hr2:=Option.some.inj hrr;subst hr2;have HPI:Aside0 ((i:Int)+1=p):=⟨hst⟩
   clear hst hrr;go_wp2_with (go_at_call 64;refine (impl_Pattern_good.calls p5.f0 p5.f1 A5 c5 p5.f2 false _ (Kd.C_below HC5.out (by repeat (first|exact HB2.out|apply below_alloc))) HL5.out HG5.out).mono ?_;rintro e w3 ⟨rfl,hd⟩;have HB3:Aside0 (Below w.heap.size w w3):=⟨below_step (by repeat (first|exact HB2.out|apply below_alloc)) hd⟩;clear hd);go_ret;exact ⟨by rw [←HPI.out,show wrap64 ((i:Int)+1)=(i:Int)+1 by unfold wrap64;have:=C1.out;omega];rfl,HB3.out⟩
  | true=>
   have HG5:Aside0 (impl_Pattern_good.f p5.f0 p5.f1 p5.f2=some true):=⟨by unfold impl_Pattern_good.f;rw [hg5]⟩
   rw [hg5,if_pos rfl] at hst;clear hg5;have HST:=a_ hst;clear hst;go_wp2_with (go_at_call 64;refine (impl_Pattern_good.calls p5.f0 p5.f1 A5 c5 p5.f2 true _ (Kd.C_below HC5.out (by repeat (first|exact HB2.out|apply below_alloc))) HL5.out HG5.out).mono ?_;rintro e w3 ⟨rfl,hd⟩;have HB3:Aside0 (Below w.heap.size w w3):=⟨below_step (by repeat (first|exact HB2.out|apply below_alloc)) hd⟩;have BK3:=a_ (blk_below (blk_alloc BK2.out (.cells #[.bool p5.f0,.string p5.f1,.slice A5 p5.f2.length c5] 42)) hd);clear hd);go_roundg (ps.length-(i+1))
   case measure=>omega
   case rel=>exact ⟨i+1,by omega,by omega,by rw [show wrap64 ((i:Int)+1)=((i+1:Nat):Int) by unfold wrap64;have:=C1.out;omega],HST,HB3,BK3⟩
 ·have hil:i=ps.length:=by omega
  subst hil;have e0:=HP2.out;rw [List.drop_length] at e0;unfold sf_p at e0
  subst e0;have h2:=HH.out;rw [if_pos rfl] at h2;obtain ⟨ee,he,h2⟩:=Option.bind_eq_some_iff.1 h2;have HE:Aside0 (sf_e es (es.length-0) [] []=some ee):=⟨he⟩
  have HH2:=a_ h2;clear he h2 HP2 HH HP;obtain ⟨wq,hwq⟩:∃x,x=wr:=⟨_,rfl⟩;subst hwq;have hs0:w.heap.size+1≤wq.heap.size:=lt_of_block BK2.out
  have HS0:=a_ hs0;have ha3':=(blk_cell BK2.out 3).trans rfl;have hb3':=(blk_cell (blk_alloc BK2.out (.cells #[.slice none 0 0,.slice none 0 0] 214)) 3).trans rfl;simp only [List.getElem?_toArray,List.getElem?_cons_zero,List.getElem?_cons_succ] at ha3' hb3';go_wp2;go_loopg [51] es.length (fun gg v51 wr=>∃(i:Nat) (fs ds:List Int),i≤es.length∧es.length-i≤gg∧v51=.int .i64 (i:Int)∧Aside0 (i=fs.length∧sf_e es (es.length-i) fs ds=some ee)∧Aside0 (Below w.heap.size w wr)∧Aside0 (wr.heap[w.heap.size]?=some (.cells #[.string nm,.int .i64 sa,.slice A2 ps.length c2,.slice A3 es.length c3,.slice A4 as_.length c4] 39 (0,0)))∧Aside0 (Trees wr wq.heap.size w.heap.size fs ds)∧Aside0 (wq.heap.size<wr.heap.size))
  case atStart=>exact ⟨0,[],[],Nat.zero_le _,Nat.le_refl _,rfl,⟨rfl,HE.out⟩,⟨below_alloc HB2.out _⟩,⟨blk_alloc BK2.out _⟩,⟨_,_,blk_new wq _,own_nil _ _ _ _,own_nil _ _ _ _,ne_nil _⟩,⟨by simp⟩⟩
  obtain ⟨i,fs,ds,hi,hgg,rfl,HE2,HB4,BK4,TR4,SZ4⟩:=hrel;have hb0:=(blk_cell BK4.out 3).trans rfl;simp only [List.getElem?_toArray,List.getElem?_cons_zero,List.getElem?_cons_succ] at hb0;by_cases hlt:i<es.length
  ·have hz:(i:Int)<(es.length:Int):=by omega
   have hst:=sf_e_cons es es.length i hlt fs ds ee HE2.out.2;obtain ⟨⟨g5,fs5,ds5⟩,hg5,hst⟩:=Option.bind_eq_some_iff.1 hst;have HG5:=a_ hg5;have HL5:=a_ (grow_len hg5);clear hg5;cases g5 with
   | false=>
    rw [if_neg (by simp)] at hst;have hpi:=Option.some.inj hst;have hrr:=HH2.out;rw [←hpi] at hrr;have hn1:¬((fs.length:Int)+1=-1):=by omega
    replace hrr:(if (fs.length:Int)+1=-1 then _ else some ((fs.length:Int)+1))=some r:=hrr
    rw [if_neg hn1] at hrr;have hr2:=Option.some.inj hrr;have HPI:Aside0 ((i:Int)+1=r):=⟨by rw [HE2.out.1];exact hr2⟩
    clear hst hpi hrr hr2 hn1;go_wp2_with (go_at_call 151;refine (impl_trees_grow.calls A3 c3 es wq.heap.size fs ds fs5 ds5 false w _ HB4.out HR3.out HC3.out TR4.out (Nat.le_of_succ_le HS0.out) HG5.out).mono ?_;rintro e w3 ⟨rfl,htr,hbw,hkt⟩;have HB5:=a_ hbw;clear htr hbw hkt);go_ret;exact ⟨by rw [←HPI.out,show wrap64 ((i:Int)+1)=(i:Int)+1 by unfold wrap64;have:=C3.out;omega];rfl,HB5.out⟩
   | true=>
    rw [if_pos rfl] at hst;have HST:Aside0 (i+1=fs5.length∧sf_e es (es.length-(i+1)) fs5 ds5=some ee):=⟨by have:=HL5.out.1;have:=HE2.out.1;omega,hst⟩
    clear hst;go_wp2_with (go_at_call 151;refine (impl_trees_grow.calls A3 c3 es wq.heap.size fs ds fs5 ds5 true w _ HB4.out HR3.out HC3.out TR4.out (Nat.le_of_succ_le HS0.out) HG5.out).mono ?_;rintro e w3 ⟨rfl,htr,hbw,hkt⟩;have HB5:=a_ hbw;have TR5:=a_ htr;have BK5:=a_ (hkt.2 _ _ _ (by decide) (by decide) BK4.out);have SZ5:=a_ (Nat.lt_of_lt_of_le SZ4.out hkt.1);clear htr hbw hkt);go_roundg (es.length-(i+1))
    case measure=>omega
    case rel=>exact ⟨i+1,fs5,ds5,by omega,by omega,by rw [show wrap64 ((i:Int)+1)=((i+1:Nat):Int) by unfold wrap64;have:=C3.out;omega],HST,HB5,BK5,TR5,SZ5⟩
  ·have hil:i=es.length:=by omega
   subst hil;have e0:=HE2.out.2;rw [Nat.sub_self] at e0;unfold sf_e at e0
   have e1:=Option.some.inj e0;subst e1;have h3:=HH2.out;rw [if_pos rfl] at h3;obtain ⟨aa,haa,h3⟩:=Option.bind_eq_some_iff.1 h3;have HA:Aside0 (sf_a fs (as_.drop 0) 0 0=some aa):=⟨haa⟩
   have HH3:=a_ h3;clear haa h3 e0 HE2 HH2 HE;obtain ⟨wp,hwp⟩:∃x,x=wr:=⟨_,rfl⟩;subst hwp;have htr:=TR4.out;obtain ⟨vF,vD,hbt,hoF,hoD,hne⟩:=htr;obtain ⟨AF,cF,eF⟩:=own_slice hoF;subst eF;have hs1:w.heap.size+1≤wp.heap.size:=lt_of_block BK4.out
   have HS1:=a_ hs1;have HBT:=a_ (blk_alloc hbt (.cells #[.int .i64 0] 3));have HOF:=a_ (own_alloc hoF (.cells #[.int .i64 0] 3));have HNE:Aside0 (some wp.heap.size≠(Value.slice AF fs.length cF).ownBlock):=⟨fun e=>by have:=own_lt hoF _ e.symm;omega⟩
   clear hbt hoF hoD hne hs1;have hb4:=(blk_cell BK4.out 4).trans rfl;have hb5:=(blk_cell (blk_alloc BK4.out (.cells #[.int .i64 0] 3)) 4).trans rfl;simp only [List.getElem?_toArray,List.getElem?_cons_zero,List.getElem?_cons_succ] at hb4 hb5;go_wp2;go_loopg [65] as_.length (fun gg v65 wr=>∃(i:Nat) (m:Int),i≤as_.length∧as_.length-i≤gg∧v65=.int .i64 (i:Int)∧Aside0 (sf_a fs (as_.drop i) i m=some aa)∧Aside0 (wr.heap[wp.heap.size]?=some (.cells #[.int .i64 m] 3 (0,0)))∧Aside0 ((wp.alloc (.cells #[.int .i64 0] 3)).grownBy wr (some wp.heap.size)))
   case atStart=>exact ⟨0,0,Nat.zero_le _,Nat.le_refl _,rfl,HA,⟨blk_new wp _⟩,⟨World.grownBy.refl _ _⟩⟩
   obtain ⟨i,m,hi,hgg,rfl,HA2,BN6,HG6⟩:=hrel;have HB6:Aside0 (Below w.heap.size w wr):=⟨(below_alloc HB4.out _).grown HG6.out (by have:=HS1.out;simp;omega) (by intro q e;injection e with e;have:=HS1.out;omega)⟩
   have BK6:=a_ (blk_grown (blk_alloc BK4.out _) HG6.out (by intro e;injection e with e;have:=HS1.out;omega));have BT6:=a_ (blk_grown HBT.out HG6.out (by intro e;injection e with e;have:=SZ4.out;omega));have OF6:=a_ (own_other HOF.out HG6.out (Or.inr (fun e=>HNE.out e.symm)));have hd0:=(blk_cell BK6.out 0).trans rfl;have hd1:=(blk_cell BK6.out 1).trans rfl;have hd2:=(blk_cell BK6.out 2).trans rfl;have hd3:=(blk_cell BK6.out 3).trans rfl;have hd4:=(blk_cell BK6.out 4).trans rfl;simp only [List.getElem?_toArray,List.getElem?_cons_zero,List.getElem?_cons_succ] at hd0 hd1 hd2 hd3 hd4;have hn6:=cell_of_one BN6.out;have hs6:w.heap.size+1≤wr.heap.size:=lt_of_block BK6.out
   have hs7:wp.heap.size+1≤wr.heap.size:=lt_of_block BN6.out
   by_cases hlt:i<as_.length
   ·have hz:(i:Int)<(as_.length:Int):=by omega
    have hz0:(0:Int)≤(i:Int):=by omega
    obtain ⟨ad,A7,c7,e0,hx0,hx1,hx2,hx3,hl7,hC7⟩:=at_T98 HR4.out (i:Int) hz0 hz;cases e0;replace hx0:=(HB6.out.cell (World.block_lt_of_cell? w _ hx0)).trans hx0;replace hx1:=(HB6.out.cell (World.block_lt_of_cell? w _ hx1)).trans hx1;replace hx2:=(HB6.out.cell (World.block_lt_of_cell? w _ hx2)).trans hx2;replace hx3:=(HB6.out.cell (World.block_lt_of_cell? w _ hx3)).trans hx3;simp only [Int.toNat_natCast] at hx0 hx1 hx2 hx3;have HC7:=a_ hC7;have hst:=sf_a_cons fs as_ i m hlt aa HA2.out;clear hC7 hl7;generalize rd_T98 as_ (i:Int)=a7 at *;obtain ⟨⟨g7,m7⟩,hg7,hst⟩:=Option.bind_eq_some_iff.1 hst;have HG7:=a_ hg7;clear hg7;cases g7 with
    | false=>
     rw [if_neg (by simp)] at hst;have hpi:=Option.some.inj hst;have hrr:=HH3.out;rw [←hpi] at hrr;have hn1:¬((i:Int)+1=-1):=by omega
     replace hrr:(if (i:Int)+1=-1 then _ else some ((i:Int)+1))=some r:=hrr
     rw [if_neg hn1] at hrr;have hr2:=Option.some.inj hrr;have HPI:Aside0 ((i:Int)+1=r):=⟨hr2⟩
     clear hst hpi hrr hr2 hn1;go_wp2_with (go_at_call 152;refine (impl_Action_good.calls a7.f0 a7.f1 a7.f2 A7 c7 a7.f3 wq.heap.size w.heap.size AF cF vD fs wp.heap.size m m7 false w _ (below_alloc HB6.out _) HC7.out (blk_alloc BT6.out _) (own_alloc OF6.out _) HNE.out (blk_alloc BN6.out _) (Nat.le_of_succ_le HS1.out) HG7.out).mono ?_;rintro e w7 ⟨rfl,hbn,hgr,hsz⟩;have HB8:Aside0 (Below w.heap.size w w7):=⟨(below_alloc HB6.out _).grown hgr (by simp;omega) (by intro q e;injection e with e;have:=HS1.out;omega)⟩;clear hbn hgr hsz);go_ret;exact ⟨by rw [←HPI.out,show wrap64 ((i:Int)+1)=(i:Int)+1 by unfold wrap64;have:=C2.out;omega];rfl,HB8.out⟩
    | true=>
     rw [if_pos rfl] at hst;have HST:=a_ hst;clear hst;go_wp2_with (go_at_call 152;refine (impl_Action_good.calls a7.f0 a7.f1 a7.f2 A7 c7 a7.f3 wq.heap.size w.heap.size AF cF vD fs wp.heap.size m m7 true w _ (below_alloc HB6.out _) HC7.out (blk_alloc BT6.out _) (own_alloc OF6.out _) HNE.out (blk_alloc BN6.out _) (Nat.le_of_succ_le HS1.out) HG7.out).mono ?_;rintro e w7 ⟨rfl,hbn,hgr,hsz⟩;have BN8:=a_ hbn;have HG8:=a_ ((HG6.out.trans (World.grownBy_alloc _ _ _)).trans hgr);clear hbn hgr hsz);go_roundg (as_.length-(i+1))
     case measure=>omega
     case rel=>exact ⟨i+1,m7,by omega,by omega,by rw [show wrap64 ((i:Int)+1)=((i+1:Nat):Int) by unfold wrap64;have:=C2.out;omega],HST,BN8,HG8⟩
   ·have hil:i=as_.length:=by omega
    subst hil;have e0:=HA2.out;rw [List.drop_length] at e0;unfold sf_a at e0
    have e1:=Option.some.inj e0;subst e1;have h4:=HH3.out;rw [if_pos rfl] at h4;clear e0 HA2 HH3 HA;by_cases d1:m=(es.length:Int)
    ·subst d1;rw [if_pos rfl] at h4;cases h4;go_wp2;go_ret;exact ⟨rfl,HB6.out⟩
    ·rw [if_neg d1] at h4;have h5:=Option.some.inj h4;subst h5;have q7:(m==(es.length:Int))=false:=by simpa using d1
     have q8:(m != (es.length:Int))=true:=by simpa using d1
     clear d1 h4;go_wp2;go_ret;exact ⟨by rw [show wrap64 ((as_.length:Int)+1)=(as_.length:Int)+1 by unfold wrap64;have:=C2.out;omega];rfl,HB6.out⟩
theorem impl_Rule_shapeFault.calls (a0_0:ByteArray) (a0_1:Int) (A0_2:Option Addr) (c0_2:Nat) (l0_2:List S42) (A0_3:Option Addr) (c0_3:Nat) (l0_3:List S161) (A0_4:Option Addr) (c0_4:Nat) (l0_4:List S98) (r:Int) (w:World) (hr0_2:Kd.C k42 w A0_2 l0_2.length l0_2) (hc0_2:l0_2.length≤c0_2) (hr0_3:Kd.C k161 w A0_3 l0_3.length l0_3) (hc0_3:l0_3.length≤c0_3) (hr0_4:Kd.C k98 w A0_4 l0_4.length l0_4) (hc0_4:l0_4.length≤c0_4) (h:impl_Rule_shapeFault.f a0_0 a0_1 l0_2 l0_3 l0_4=some r):
  Calls Tryz.prog 109 #[.agg #[.string a0_0,.int .i64 a0_1,.slice A0_2 l0_2.length c0_2,.slice A0_3 l0_3.length c0_3,.slice A0_4 l0_4.length c0_4]] w fun e w'=>e=.returned (.int .i64 r)∧Below w.heap.size w w':=
 impl_Rule_shapeFault.walk a0_0 a0_1 A0_2 c0_2 l0_2 A0_3 c0_3 l0_3 A0_4 c0_4 l0_4 r w hr0_2 hr0_3 hc0_3 hr0_4 h
end Go.Proofs.YtahambloheoebaaGreatDoor.P
namespace Go.Proofs.YtahambloheoebaaGreatDoorX
open Go Go.RowKit Go.Maps Go.ChangeMaps Go.WideMaps
theorem lawS:Keyed Tryz.prog 9:=string_keyed Tryz.underlying9
theorem data_ne {s t:ByteArray} (h:s≠t):(Lit.string s.data.toList)≠.string t.data.toList:=by
 intro e;injection e with e
 apply h
 cases s with|mk a=>
 cases t with|mk b=>
 have:a=b:=Array.toList_inj.1 e
 rw [this]
end Go.Proofs.YtahambloheoebaaGreatDoorX
namespace Go.Proofs.YtahambloheoebaaGreatDoorX
open Go Go.RowKit Go.Maps Go.ChangeMaps Go.WideMaps
def memS (s:ByteArray):List ByteArray→Bool
 | []=>false
 | u::r=>(u.toList==s.toList) || memS s r
theorem ba_same {a b:ByteArray}:(a.toList==b.toList)=true↔a=b:=by
 rw [beq_iff_eq];constructor
 ·intro h;rw [ByteArray.toList_eq,ByteArray.toList_eq] at h;cases a with|mk x=>
  cases b with|mk y=>
  exact congrArg ByteArray.mk (Array.toList_inj.1 h)
 ·intro h;rw [h]
def SetS (w:World) (b n:Nat) (ss:List ByteArray):Prop:=
 ∃D:DataW Unit,w.ownsMap Tryz.prog 9 unitElem b n D∧IsMap D∧∀s:ByteArray,has D (.string s.data.toList)=memS s ss
theorem SetS_made (w:World):SetS (w.alloc (.map #[] 0)) w.heap.size 0 []:=
 ⟨.map [],World.ownsMap_made w _ _ _,isMap_empty,fun _=>rfl⟩
theorem SetS.kept {w w':World} {b n:Nat} {ss:List ByteArray} {row:Option Nat} (h:SetS w b n ss) (hg:w.grownBy w' row) (hne:some b≠row):SetS w' b n ss:=by
 obtain ⟨D,h1,h2,h3⟩:=h;exact ⟨D,h1.kept hg hne,h2,h3⟩
theorem SetS.alloc {w:World} {b n:Nat} {ss:List ByteArray} (h:SetS w b n ss) (o:Obj):SetS (w.alloc o) b n ss:=by
 obtain ⟨D,h1,h2,h3⟩:=h;exact ⟨D,h1.alloc o,h2,h3⟩
theorem SetS.lt {w:World} {b n:Nat} {ss:List ByteArray} (h:SetS w b n ss):b<w.heap.size:=by
 obtain ⟨D,h1,_⟩:=h;exact h1.lt
theorem wpList_hasS {w:World} {ops:Array Oper} {rest:List Oper} {o:Oper} {a:Act} {Q:Exit→Act→World→Prop} (hg:o.guard=none) (m x:Operand) (t eT:TypeId) (hz:∀w,(zeroValue eT).run Tryz.prog w=.ok (.agg #[]) w) (ht:Tryz.prog.underlying t=some (.map 9 eT))
  (hop:o.op=Op.lookup t m x true) (b n:Nat) (ss:List ByteArray) (h:SetS w b n ss) (hm:a.eval m=.map (some b)) (s:ByteArray) (hs:s.size≤maxLen) (hx:a.eval x=.string s)
  (hK:wpList Tryz.prog ops Q rest (a.put o.dst (.tuple #[.agg #[],.bool (memS s ss)])) w):
  wpList Tryz.prog ops Q (o::rest) a w:=by
 obtain ⟨D,h1,h2,h3⟩:=h;refine wpList_lookup_own_unit w hg m x t hop _ _ lawS ht (hz _) b n D hm h1 _ _ hx (keyOf_string_mk Tryz.underlying9 hs) ?_;rw [h3 s];exact hK
theorem wpList_addS {w:World} {ops:Array Oper} {rest:List Oper} {o:Oper} {a:Act} {Q:Exit→Act→World→Prop} (hg:o.guard=none) (m x v:Operand) (t eT:TypeId) (ht:Tryz.prog.underlying t=some (.map 9 eT))
  (hop:o.op=Op.mapUpdate t m x v) (b n:Nat) (ss:List ByteArray) (h:SetS w b n ss) (hn:n<maxLen) (hm:a.eval m=.map (some b)) (s:ByteArray) (hs:s.size≤maxLen) (hx:a.eval x=.string s) (hv:a.eval v=.agg #[])
  (hK:∀w',SetS w' b (n+1) (s::ss)→w.grownBy w' (some b)→wpList Tryz.prog ops Q rest (a.put o.dst undef) w'):
  wpList Tryz.prog ops Q (o::rest) a w:=by
 obtain ⟨D,h1,h2,h3⟩:=h;refine wpList_mapUpdate_in w hg m x v t hop _ _ lawS ht unitElem b n D hm h1 hn _ _ _ hx hv (keyOf_string_mk Tryz.underlying9 hs) _ [] unitElem_mk ?_;intro w' h4 h5;refine hK w' ⟨_,h4,?_,fun u=>?_⟩ h5.grown
 ·obtain ⟨es,rfl⟩:=h2;exact ⟨_,rfl⟩
 ·by_cases e:s=u
  ·subst e;rw [has_put_same h2 (by trivial),memS,ba_same.2 rfl];rfl
  ·rw [has_put_other (data_ne (Ne.symm e)),h3 u,memS,Bool.eq_false_iff.2 (fun h=>e (ba_same.1 h))];rfl
end Go.Proofs.YtahambloheoebaaGreatDoorX
namespace Go.Proofs.YtahambloheoebaaGreatDoor.P
open Go.Proofs.YtahambloheoebaaGreatDoorX
open Go.RowKit Go.Proofs.YtahambloheoebaaGreatDoorW.PrintWords Go.Proofs.YtahambloheoebaaGreatDoorW.PrintLast Go.Proofs.YtahambloheoebaaGreatDoorW.PrintMore
attribute [local go_sem] max2_int min2_int max_two min_two max_three min_three max_four min_four
set_option linter.unusedVariables false
set_option linter.unusedSimpArgs false
open Go.Maps Go.ChangeMaps Go.WideMaps Go.Proofs.YtahambloheoebaaGreatDoorX
theorem zeroU_ (w:World):(zeroValue 172).run Tryz.prog w=.ok (.agg #[]) w:=by kernel_rfl
set_option maxHeartbeats 4000000 in
set_option maxRecDepth 100000 in
theorem impl_nameSet_has.calls (b n:Nat) (ss:List ByteArray) (s:ByteArray) (w:World) (h:SetS w b n ss) (hs:s.size≤maxLen):
  Calls Tryz.prog 110 #[.map (some b),.string s] w fun e w'=>e=.returned (.bool (memS s ss))∧Below w.heap.size w w':=by
 have HB:=a_ (Below.refl w.heap.size w);have HS:=a_ h;have HL:=a_ hs;have hu:=Tryz.underlying172;clear h hs;go_enter Tryz.func110,Tryz.ntmps110;go_wp2_with (at_lookup;refine wpList_hasS rfl _ _ 171 172 zeroU_ Tryz.underlying171 rfl b n ss HS.out rfl s HL.out rfl ?_);go_ret;exact ⟨rfl,by repeat (first|exact HB.out|apply below_alloc)⟩
end Go.Proofs.YtahambloheoebaaGreatDoor.P
namespace Go.Proofs.YtahambloheoebaaGreatDoor.P
open Go.Proofs.YtahambloheoebaaGreatDoorX
open Go.RowKit Go.Proofs.YtahambloheoebaaGreatDoorW.PrintWords Go.Proofs.YtahambloheoebaaGreatDoorW.PrintLast Go.Proofs.YtahambloheoebaaGreatDoorW.PrintMore
attribute [local go_sem] max2_int min2_int max_two min_two max_three min_three max_four min_four
set_option linter.unusedVariables false
set_option linter.unusedSimpArgs false
def impl_Rule_positives.l0:Nat→Int→List (S42)→Int→Int→Option (Int)
 | 0,_,_,_,_=>none
 | k+1,x3,x7,x8,x9=>if x9<x8 then (if 0≤x9 then (if x9<(x7.length:Int) then (if ((rd_T42 x7 x9).f0=true) then (impl_Rule_positives.l0 k x3 x7 x8 (wrap64 (x9+1))) else (impl_Rule_positives.l0 k (wrap64 (x3+1)) x7 x8 (wrap64 (x9+1)))) else (none)) else (none)) else (some x3)
def impl_Rule_positives.f (k:Nat) (a0_0:ByteArray) (a0_1:Int) (l0_2:List (S42)) (l0_3:List (S161)) (l0_4:List (S98)):Option (Int):=impl_Rule_positives.l0 k 0 l0_2 (l0_2.length:Int) 0
theorem impl_Rule_positives.mono_l:∀k,(∀y0 y1 y2 y3,LeO (impl_Rule_positives.l0 k y0 y1 y2 y3) (impl_Rule_positives.l0 (k+1) y0 y1 y2 y3))
 | 0=>fun _ _ _ _ r h=>by simp [impl_Rule_positives.l0] at h
 | k+1=>by
  have ih0:=impl_Rule_positives.mono_l k
  ·intro y0 y1 y2 y3;unfold impl_Rule_positives.l0
   repeat' with_reducible first|apply ih0|apply LeO.refl|apply LeO.none|refine LeO.ite ?_ ?_|refine LeO.bind ?_ (fun _=>?_)
theorem impl_Rule_positives.mono:∀a0 a1 a2 a3 a4 k,LeO (impl_Rule_positives.f k a0 a1 a2 a3 a4) (impl_Rule_positives.f (k+1) a0 a1 a2 a3 a4):=by
 intro a0 a1 a2 a3 a4 k;have ih0:=impl_Rule_positives.mono_l k;unfold impl_Rule_positives.f
 repeat' with_reducible first|apply ih0|apply LeO.refl|apply LeO.none|refine LeO.ite ?_ ?_|refine LeO.bind ?_ (fun _=>?_)
set_option maxHeartbeats 8000000 in
set_option maxRecDepth 100000 in
theorem impl_Rule_positives.calls (k:Nat) (a0_0:ByteArray) (a0_1:Int) (A0_2:Option Addr) (c0_2:Nat) (l0_2:List (S42)) (A0_3:Option Addr) (c0_3:Nat) (l0_3:List (S161)) (A0_4:Option Addr) (c0_4:Nat) (l0_4:List (S98)) (r:Int) (w:World) (hr0_2:Kd.C k42 w A0_2 l0_2.length l0_2) (hc0_2:l0_2.length≤c0_2) (hr0_3:Kd.C k161 w A0_3 l0_3.length l0_3) (hc0_3:l0_3.length≤c0_3) (hr0_4:Kd.C k98 w A0_4 l0_4.length l0_4) (hc0_4:l0_4.length≤c0_4) (h:impl_Rule_positives.f k a0_0 a0_1 l0_2 l0_3 l0_4=some r):
  Calls Tryz.prog 111 #[.agg #[.string a0_0,.int .i64 a0_1,.slice A0_2 l0_2.length c0_2,.slice A0_3 l0_3.length c0_3,.slice A0_4 l0_4.length c0_4]] w fun e w'=>e=.returned (.int .i64 r)∧Below w.heap.size w w':=by
 have hu39:=Tryz.underlying39;have hu42:=Tryz.underlying42;have HR0_2:=a_ hr0_2;have HC0_2:=a_ hc0_2;clear hr0_2 hc0_2;have HR0_3:=a_ hr0_3;have HC0_3:=a_ hc0_3;clear hr0_3 hc0_3;have HR0_4:=a_ hr0_4;have HC0_4:=a_ hc0_4;clear hr0_4 hc0_4;have HB:=a_ (Below.refl w.heap.size w);have H:(impl_Rule_positives.l0 k 0 l0_2 (l0_2.length:Int) 0)=some r:=h
 clear h;have H':=a_ H;clear H;go_enter Tryz.func111,Tryz.ntmps111;go_wp2_with (first|((with_reducible refine gate_dst (N:=1) rfl ?_);refine bh_ 1 #[.string a0_0,.int .i64 a0_1,.slice A0_2 l0_2.length c0_2,.slice A0_3 l0_3.length c0_3,.slice A0_4 l0_4.length c0_4] 39 HB ?_;intro gb346 hg wx BK346 GE346 hb;replace HB:=ms_ HB hb;clear hb hg;replace hz346:=cz5 BK346));go_loopg [3,9] k (fun kq v3 v9 w'=>∃(x3_1:Int) (x9_1:Int),v3=.int .i64 x3_1∧v9=.int .i64 x9_1∧Aside0 (impl_Rule_positives.l0 kq x3_1 l0_2 (l0_2.length:Int) x9_1=some r)∧Aside0 (kq≤k)∧Aside0 (w'.heap[gb346]?=some (.cells #[.string a0_0,.int .i64 a0_1,(.slice A0_2 l0_2.length c0_2),(.slice A0_3 l0_3.length c0_3),(.slice A0_4 l0_4.length c0_4)] 39 (0,0)))∧Aside0 (Below w.heap.size w w'))
 case atStart=>exact ⟨(0),(0),mq_,mq_,H',⟨Nat.le_refl _⟩,⟨mc_ BK346⟩,⟨mb_ HB⟩⟩
 clear H';(try clear hz346);obtain ⟨x3_1,x9_1,rfl,rfl,HA,HK1,BK346,HB⟩:=hrel;obtain _|k1:=gk
 ·exact absurd HA.out (by simp [impl_Rule_positives.l0])
 have H:=HA.out;clear HA;simp only [impl_Rule_positives.l0] at H;by_cases c4:x9_1<(l0_2.length:Int)
 ·rw [if_pos c4] at H;have c4b0:=ct_ c4;clear c4;by_cases c5:0≤x9_1
  case neg=>
   rw [if_neg c5] at H;cases H
  rw [if_pos c5] at H;have c5b0:=ct_ c5;clear c5;by_cases c6:x9_1<(l0_2.length:Int)
  case neg=>
   rw [if_neg c6] at H;cases H
  rw [if_pos c6] at H;have c6b0:=ct_ c6;clear c6;obtain ⟨bq7,hbq7⟩:∃b_:Bool,b_=((rd_T42 l0_2 x9_1).f0):=⟨_,rfl⟩;replace H:(if (bq7=true) then (impl_Rule_positives.l0 k1 x3_1 l0_2 (l0_2.length:Int) (wrap64 (x9_1+1))) else (impl_Rule_positives.l0 k1 (wrap64 (x3_1+1)) l0_2 (l0_2.length:Int) (wrap64 (x9_1+1))))=some r:=by rw [←hbq7] at H;exact H
  have Nbq7:=a_ hbq7;clear hbq7;by_cases c8:(bq7=true)
  ·subst c8;rw [if_pos rfl] at H;have H':=a_ H;clear H;have p347:0≤(x9_1:Int):=md_
   have q347:x9_1<(l0_2.length:Int):=md_
   obtain ⟨ad347,A347_2,c347_2,e347,hx347_0,hx347_1,hx347_2,hl347_2,hi347_2⟩:=at_T42 HR0_2.out x9_1 p347 q347;(try rw [←Nbq7.out] at hx347_0);cases e347;replace hx347_0:=mx_ HB hx347_0;replace hx347_1:=mx_ HB hx347_1;replace hx347_2:=mx_ HB hx347_2;have HR347_2:=a_ hi347_2;have HC347_2:=a_ hl347_2;clear hi347_2 hl347_2;replace p347:=eq_true p347;replace q347:=eq_true q347;go_wp2_with (first|((with_reducible refine gate_dst (N:=5) rfl ?_);refine bh_ 5 #[.bool false,.string (⟨#[]⟩:ByteArray),.slice none 0 0] 42 HB ?_;intro gb348 hg wx BK348 GE348 hb;obtain ⟨NB346_348,NB348_346⟩:=mn_ BK346 hg;replace BK346:=mk_ BK346 hb;replace HB:=ms_ HB hb;clear hb hg;have nNB348_346:=NB348_346.out;have nNB346_348:=NB346_348.out;replace hz348:=cz3 BK348));go_roundg k1
   case measure=>
    have:=HK1.out
    omega
   case rel=>exact ⟨(x3_1),(wrap64 (x9_1+1)),mq_,mq_,H',⟨by have:=HK1.out;omega⟩,⟨mc_ BK346⟩,⟨mb_ HB⟩⟩
  ·replace c8:=Bool.eq_false_iff.mpr c8;subst c8;rw [if_neg (show ¬(false=true) by decide)] at H;have H':=a_ H;clear H;have p347:0≤(x9_1:Int):=md_
   have q347:x9_1<(l0_2.length:Int):=md_
   obtain ⟨ad347,A347_2,c347_2,e347,hx347_0,hx347_1,hx347_2,hl347_2,hi347_2⟩:=at_T42 HR0_2.out x9_1 p347 q347;(try rw [←Nbq7.out] at hx347_0);cases e347;replace hx347_0:=mx_ HB hx347_0;replace hx347_1:=mx_ HB hx347_1;replace hx347_2:=mx_ HB hx347_2;have HR347_2:=a_ hi347_2;have HC347_2:=a_ hl347_2;clear hi347_2 hl347_2;replace p347:=eq_true p347;replace q347:=eq_true q347;go_wp2_with (first|((with_reducible refine gate_dst (N:=5) rfl ?_);refine bh_ 5 #[.bool false,.string (⟨#[]⟩:ByteArray),.slice none 0 0] 42 HB ?_;intro gb348 hg wx BK348 GE348 hb;obtain ⟨NB346_348,NB348_346⟩:=mn_ BK346 hg;replace BK346:=mk_ BK346 hb;replace HB:=ms_ HB hb;clear hb hg;have nNB348_346:=NB348_346.out;have nNB346_348:=NB346_348.out;replace hz348:=cz3 BK348));go_roundg k1
   case measure=>
    have:=HK1.out
    omega
   case rel=>exact ⟨(wrap64 (x3_1+1)),(wrap64 (x9_1+1)),mq_,mq_,H',⟨by have:=HK1.out;omega⟩,⟨mc_ BK346⟩,⟨mb_ HB⟩⟩
 ·rw [if_neg c4] at H;have c4b0:=cf_ c4;clear c4;obtain rfl:=oi_ H;go_wp2;go_ret;exact ⟨me_,mb_ HB⟩
end Go.Proofs.YtahambloheoebaaGreatDoor.P
namespace Go.Proofs.YtahambloheoebaaGreatDoorX
open Go Go.RowKit Go.Maps Go.ChangeMaps Go.WideMaps
theorem SetS.mono {w:World} {b n n':Nat} {ss:List ByteArray} (h:SetS w b n ss) (hn:n≤n'):SetS w b n' ss:=by
 obtain ⟨D,h1,h2,h3⟩:=h;exact ⟨D,h1.mono hn,h2,h3⟩
theorem SetS.ext {w:World} {b n:Nat} {ss ss':List ByteArray} (h:SetS w b n ss) (he:∀s,memS s ss=memS s ss'):SetS w b n ss':=by
 obtain ⟨D,h1,h2,h3⟩:=h;exact ⟨D,h1,h2,fun s=>(h3 s).trans (he s)⟩
theorem memS_append (s:ByteArray):∀a b:List ByteArray,memS s (a++b)=(memS s a || memS s b)
 | [],b=>by simp [memS]
 | x::a,b=>by simp [memS,memS_append s a b,Bool.or_assoc]
theorem memS_cons_self (s:ByteArray) (ss:List ByteArray):memS s (s::ss)=true:=by simp [memS]
theorem memS_cons_ne {s t:ByteArray} (h:t≠s) (ss:List ByteArray):memS s (t::ss)=memS s ss:=by
 simp only [memS];rw [Bool.eq_false_iff.2 (fun e=>h (ba_same.1 e)),Bool.false_or]
theorem has_of_at {D:DataW Unit} {kl:Lit} {d:DataW Unit} (hm:IsMap D) (h:∀zd,D.atKey kl zd=d):has D kl=true:=by
 obtain ⟨es,rfl⟩:=hm;rw [has_eq];have h1:=h (.lit (.bool true));have h2:=h (.lit (.bool false));simp only [DataW.atKey] at h1 h2;cases hf:es.find? (fun p=>p.1.sameKey kl) with
 | none=>rw [hf] at h1 h2;rw [←h2] at h1;cases h1
 | some p=>exact List.any_eq_true.2 ⟨p,List.mem_of_find?_eq_some hf,by have:=List.find?_some hf;simpa using this⟩
theorem string_key_inv {key:Value} {kl:Lit} (h:keyOf Tryz.prog 9 key=some kl):∃s:ByteArray,key=.string s∧s.size≤maxLen∧kl=.string s.data.toList:=by
 cases key<;>simp [keyOf,Tryz.underlying9,mapKey] at h
 exact ⟨_,rfl,h.1,h.2.symm⟩
theorem same_self (l:List UInt8):(Lit.string l).sameKey (.string l)=true:=by simp [Lit.sameKey]
def URel (w:World) (bL r nL:Nat) (L:List ByteArray) (bK nK:Nat) (K:List ByteArray) (cnt:Nat):Prop:=
 ∃(D:DataW Unit) (left:Lit→Bool) (ss:List ByteArray),IsMap D∧(∀s:ByteArray,has D (.string s.data.toList)=memS s L)∧w.ranges Tryz.prog 9 unitElem bL r nL D left cnt∧cnt≤nL∧SetS w bK (nK+(nL-cnt)) ss∧
  ∀s:ByteArray,memS s ss=(memS s K || (memS s L && !left (.string s.data.toList)))
def UMid (w:World) (bL r nL:Nat) (L:List ByteArray) (bK nK:Nat) (K:List ByteArray) (cnt:Nat) (x:ByteArray):Prop:=
 ∃(D:DataW Unit) (left:Lit→Bool) (ss:List ByteArray),IsMap D∧(∀s:ByteArray,has D (.string s.data.toList)=memS s L)∧w.ranges Tryz.prog 9 unitElem bL r nL D left cnt∧cnt<nL∧SetS w bK (nK+(nL-cnt-1)) ss∧
  ∀s:ByteArray,memS s (x::ss)=(memS s K || (memS s L && !left (.string s.data.toList)))
theorem ranges_ne_set {w:World} {bL r nL n:Nat} {D:DataW Unit} {left:Lit→Bool} {cnt bK:Nat} {ss:List ByteArray} (h:w.ranges Tryz.prog 9 unitElem bL r nL D left cnt) (k:SetS w bK n ss):bK≠r:=by
 obtain ⟨es,clock,since,seen,c0,_,_,_,_,hr,_⟩:=h;obtain ⟨D',⟨es',clock',hb,_⟩,_⟩:=k;intro e;subst e;rw [hr] at hb;cases hb
section
variable {w:World} {ops:Array Oper} {rest:List Oper} {o:Oper} {a:Act} {Q:Exit→Act→World→Prop}
theorem wpList_rangeU (hg:o.guard=none) (m:Operand) (t eT:TypeId) (ht:Tryz.prog.underlying t=some (.map 9 eT)) (hop:o.op=Op.range t m) (bL nL:Nat) (L:List ByteArray) (hL:SetS w bL nL L) (bK nK:Nat) (K:List ByteArray) (hK:SetS w bK nK K)
  (hm:a.eval m=.map (some bL))
  (h:∀w' cnt,URel w' bL w.heap.size nL L bK nK K cnt→w.grownBy w' none→w'.heap.size=w.heap.size+1→wpList Tryz.prog ops Q rest (a.put o.dst (.pointer (some ⟨w.heap.size,0,none⟩))) w'):
  wpList Tryz.prog ops Q (o::rest) a w:=by
 obtain ⟨D,h1,h2,h3⟩:=hL;refine wpList_range_own w hg m t hop _ eT lawS ht unitElem bL nL D hm h1 ?_;intro w' hr hgr hs;exact h w' (Maps.size D) ⟨D,has D,K,h2,h3,hr,h1.size_le,(hK.kept hgr (by simp)).mono (by omega),fun s=>by rw [h3 s];cases memS s K<;>cases memS s L<;>rfl⟩ hgr hs
theorem wpList_nextU (hg:o.guard=none) (it:Operand) (hop:o.op=Op.next it false) (bL r nL:Nat) (L:List ByteArray) (bK nK:Nat) (K:List ByteArray) (cnt:Nat) (hit:a.eval it=.pointer (some ⟨r,0,none⟩)) (hU:URel w bL r nL L bK nK K cnt)
  (hDone:SetS w bK (nK+nL) (L++K)→wpList Tryz.prog ops Q rest (a.put o.dst (.tuple #[.bool false])) w)
  (hMore:∀(x:ByteArray) (w':World) (cnt':Nat),x.size≤maxLen→cnt'<cnt→UMid w' bL r nL L bK nK K cnt' x→w.grownBy w' (some r)→w'.heap.size=w.heap.size→(Instr.entry (.pointer (some ⟨r,0,none⟩))).run Tryz.prog w'=.ok (.tuple #[.string x,.agg #[]]) w'→
   wpList Tryz.prog ops Q rest (a.put o.dst (.tuple #[.bool true,.string x,.agg #[]])) w'):
  wpList Tryz.prog ops Q (o::rest) a w:=by
 obtain ⟨D,left,ss,hm,hL,hr,hc,hS,hss⟩:=hU;refine wpList_next_ranges w hg it hop _ lawS unitElem Value.string (fun _:Unit=>.agg #[]) (fun key kl hk=>by obtain ⟨s,e,_⟩:=string_key_inv hk;exact ⟨s,e⟩) (fun v y hv=>⟨(),(unitElem_inv hv).1⟩) bL r nL D left cnt hit hr ?_ ?_
 ·intro h0 hl;refine hDone ((hS.mono (by omega)).ext fun s=>?_);rw [hss s,hl,memS_append];cases memS s K<;>cases memS s L<;>rfl
 ·intro x c kl y w' cnt' hkey hlk _ hat hrg hlt hgr hsz hen;obtain ⟨s',e1,e2,e3⟩:=string_key_inv hkey;cases e1;subst e3;have hx:memS x L=true:=by rw [←hL x];exact has_of_at hm hat
  refine hMore x w' cnt' e2 hlt ⟨D,_,ss,hm,hL,hrg,by omega,(hS.kept hgr (fun e=>ranges_ne_set hr hS (by injection e))).mono (by omega),fun s=>?_⟩ hgr hsz hen;by_cases e:x=s
  ·subst e;rw [memS_cons_self,hx,same_self];simp
  ·rw [memS_cons_ne e,hss s,sameKey_ne (data_ne (Ne.symm e))];simp
theorem wpList_addU (hg:o.guard=none) (m x v:Operand) (t eT:TypeId) (ht:Tryz.prog.underlying t=some (.map 9 eT)) (hop:o.op=Op.mapUpdate t m x v) (bL r nL:Nat) (L:List ByteArray) (bK nK:Nat) (K:List ByteArray) (cnt:Nat) (s:ByteArray)
  (hU:UMid w bL r nL L bK nK K cnt s) (hne:bL≠bK) (hn:nK+nL<maxLen) (hm:a.eval m=.map (some bK)) (hs:s.size≤maxLen) (hx:a.eval x=.string s) (hv:a.eval v=.agg #[])
  (h:∀w',URel w' bL r nL L bK nK K cnt→w.grownBy w' (some bK)→wpList Tryz.prog ops Q rest (a.put o.dst undef) w'):
  wpList Tryz.prog ops Q (o::rest) a w:=by
 obtain ⟨D,left,ss,hmap,hL,hr,hc,hS,hss⟩:=hU;have hrK:bK≠r:=ranges_ne_set hr hS
 refine wpList_addS hg m x v t eT ht hop bK _ ss hS (Nat.lt_of_le_of_lt (Nat.add_le_add_left (Nat.le_trans (Nat.sub_le _ _) (Nat.sub_le _ _)) _) hn) hm s hs hx hv ?_;intro w' h1 h2;exact h w' ⟨D,left,s::ss,hmap,hL,hr.kept h2 (fun e=>hne (Option.some.inj e)) (fun e=>hrK (Option.some.inj e).symm),Nat.le_of_lt hc,h1.mono (Nat.le_of_eq (by clear hn hss h;omega)),hss⟩ h2
end
end Go.Proofs.YtahambloheoebaaGreatDoorX
namespace Go.Proofs.YtahambloheoebaaGreatDoor.P
open Go.Proofs.YtahambloheoebaaGreatDoorX
open Go.RowKit Go.Proofs.YtahambloheoebaaGreatDoorW.PrintWords Go.Proofs.YtahambloheoebaaGreatDoorW.PrintLast Go.Proofs.YtahambloheoebaaGreatDoorW.PrintMore
attribute [local go_sem] max2_int min2_int max_two min_two max_three min_three max_four min_four
set_option linter.unusedVariables false
set_option linter.unusedSimpArgs false
open Go.Proofs.YtahambloheoebaaGreatDoorX
def sc_t (K:List ByteArray):List S86→List ByteArray→Option (Bool×List ByteArray)
 | [],L=>some (true,L)
 | t::ts,L=>if t.f2.size≤maxLen then (if t.f0=3∧t.f2.toList.isEmpty=false∧memS t.f2 K=false∧memS t.f2 L=false then some (false,L) else if t.f0=2 then sc_t K ts (t.f2::L) else sc_t K ts L) else none
def sc_p:List S42→Nat→List ByteArray→Option (Int×List ByteArray)
 | [],_,K=>some (-1,K)
 | p::ps,i,K=>if p.f2.length≤6 then (sc_t K p.f2 []).bind fun y=>(if y.1=true then sc_p ps (i+1) (if p.f0=true then K else y.2++K) else some ((i:Int)+1,K)) else none
def sc_e (es:List S161) (K:List ByteArray):Nat→Int→Int→Option (Bool×Int)
 | 0,k,x=>if k≤x then none else some (true,k)
 | m+1,k,x=>if k≤x then (if 0≤k∧k<(es.length:Int)∧(rd_T161 es k).f2.size≤maxLen then (if (rd_T161 es k).f0=1∧memS (rd_T161 es k).f2 K=false then some (false,k) else sc_e es K m (k+1) x) else none) else some (true,k)
def sc_args (es:List S161) (K:List ByteArray):List Int→Int→Option (Bool×Int)
 | [],k=>some (true,k)
 | x::xs,k=>(sc_e es K es.length k x).bind fun y=>if y.1=true then sc_args es K xs y.2 else some (false,y.2)
def sc_acts (es:List S161) (K:List ByteArray) (lp:Nat):List S98→Nat→Int→Option Int
 | [],_,_=>some (-1)
 | a::as_,i,k=>(sc_args es K a.f3 k).bind fun y=>if y.1=true then sc_acts es K lp as_ (i+1) y.2 else some ((lp:Int)+(i:Int)+1)
def impl_Rule_scopeFault.f (nm:ByteArray) (sa:Int) (ps:List S42) (es:List S161) (as_:List S98):Option Int:=
 if ps.length≤6∧es.length≤60∧as_.length≤8 then (sc_p ps 0 []).bind fun y=>if y.1=-1 then sc_acts es y.2 ps.length as_ 0 0 else some y.1 else none
theorem sc_t_cons (K:List ByteArray) (ts:List S86) (j:Nat) (h:j<ts.length) (L:List ByteArray) (y:Bool×List ByteArray) (hg:sc_t K (ts.drop j) L=some y):
  (rd_T86 ts (j:Int)).f2.size≤maxLen∧(if (rd_T86 ts (j:Int)).f0=3∧(rd_T86 ts (j:Int)).f2.toList.isEmpty=false∧memS (rd_T86 ts (j:Int)).f2 K=false∧memS (rd_T86 ts (j:Int)).f2 L=false then some (false,L) else if (rd_T86 ts (j:Int)).f0=2 then sc_t K (ts.drop (j+1)) ((rd_T86 ts (j:Int)).f2::L) else sc_t K (ts.drop (j+1)) L)=some y:=by
 have e:rd_T86 ts (j:Int)=ts[j]:=by
  unfold rd_T86
  simp [h]
 rw [List.drop_eq_getElem_cons h] at hg;unfold sc_t at hg
 rw [e];split at hg
 ·exact ⟨‹_›,hg⟩
 ·cases hg
theorem sc_p_cons (ps:List S42) (i:Nat) (h:i<ps.length) (K:List ByteArray) (y:Int×List ByteArray) (hg:sc_p (ps.drop i) i K=some y):
  (rd_T42 ps (i:Int)).f2.length≤6∧((sc_t K (rd_T42 ps (i:Int)).f2 []).bind fun y=>(if y.1=true then sc_p (ps.drop (i+1)) (i+1) (if (rd_T42 ps (i:Int)).f0=true then K else y.2++K) else some ((i:Int)+1,K)))=some y:=by
 have e:rd_T42 ps (i:Int)=ps[i]:=by
  unfold rd_T42
  simp [h]
 rw [List.drop_eq_getElem_cons h] at hg;unfold sc_p at hg
 rw [e];split at hg
 ·exact ⟨‹_›,hg⟩
 ·cases hg
theorem sc_args_cons (es:List S161) (K:List ByteArray) (xs:List Int) (j:Nat) (h:j<xs.length) (k:Int) (y:Bool×Int) (hg:sc_args es K (xs.drop j) k=some y):
  ((sc_e es K es.length k (rd xs (j:Int))).bind fun y=>if y.1=true then sc_args es K (xs.drop (j+1)) y.2 else some (false,y.2))=some y:=by
 have e:rd xs (j:Int)=xs[j]:=by
  unfold rd
  simp [h]
 rw [List.drop_eq_getElem_cons h] at hg;unfold sc_args at hg
 rw [e];exact hg
theorem sc_acts_cons (es:List S161) (K:List ByteArray) (lp:Nat) (as_:List S98) (i:Nat) (h:i<as_.length) (k:Int) (r:Int) (hg:sc_acts es K lp (as_.drop i) i k=some r):
  ((sc_args es K (rd_T98 as_ (i:Int)).f3 k).bind fun y=>if y.1=true then sc_acts es K lp (as_.drop (i+1)) (i+1) y.2 else some ((lp:Int)+(i:Int)+1))=some r:=by
 have e:rd_T98 as_ (i:Int)=as_[i]:=by
  unfold rd_T98
  simp [h]
 rw [List.drop_eq_getElem_cons h] at hg;unfold sc_acts at hg
 rw [e];exact hg
theorem lt_maxLen {n:Nat} (h:n≤1000):n<maxLen:=by unfold maxLen;omega
set_option maxHeartbeats 16000000 in
set_option maxRecDepth 100000 in
theorem impl_Rule_scopeFault.walk (nm:ByteArray) (sa:Int) (A2:Option Addr) (c2:Nat) (ps:List S42) (A3:Option Addr) (c3:Nat) (es:List S161) (A4:Option Addr) (c4:Nat) (as_:List S98) (r:Int) (w:World) (hr2:Kd.C k42 w A2 ps.length ps) (hr3:Kd.C k161 w A3 es.length es) (hr4:Kd.C k98 w A4 as_.length as_) (h:impl_Rule_scopeFault.f nm sa ps es as_=some r):
  Calls Tryz.prog 112 #[.agg #[.string nm,.int .i64 sa,.slice A2 ps.length c2,.slice A3 es.length c3,.slice A4 as_.length c4]] w fun e w'=>e=.returned (.int .i64 r)∧Below w.heap.size w w':=by
 have hu:=Tryz.underlying39;have hu2:=Tryz.underlying98;have hu3:=Tryz.underlying42;have hu4:=Tryz.underlying86;have hu5:=Tryz.underlying161;have HR2:=a_ hr2;have HR3:=a_ hr3;have HR4:=a_ hr4;clear hr2 hr3 hr4;unfold impl_Rule_scopeFault.f at h
 by_cases c0:ps.length≤6∧es.length≤60∧as_.length≤8
 rotate_left
 ·rw [if_neg c0] at h;cases h
 rw [if_pos c0] at h;have C0:=a_ c0;clear c0;obtain ⟨y,hy,h⟩:=Option.bind_eq_some_iff.1 h;have HY:Aside0 (sc_p (ps.drop 0) 0 []=some y):=⟨hy⟩
 have HH:=a_ h;clear hy h;have HB:=a_ (below_alloc (below_alloc (Below.refl w.heap.size w) (.cells #[.string nm,.int .i64 sa,.slice A2 ps.length c2,.slice A3 es.length c3,.slice A4 as_.length c4] 39)) (.map #[] 0));have BK:=a_ (blk_alloc (blk_new w (.cells #[.string nm,.int .i64 sa,.slice A2 ps.length c2,.slice A3 es.length c3,.slice A4 as_.length c4] 39)) (.map #[] 0));have SK:Aside0 (SetS ((w.alloc (.cells #[.string nm,.int .i64 sa,.slice A2 ps.length c2,.slice A3 es.length c3,.slice A4 as_.length c4] 39)).alloc (.map #[] 0)) (w.heap.size+1) 0 []):=⟨by have:=SetS_made (w.alloc (.cells #[.string nm,.int .i64 sa,.slice A2 ps.length c2,.slice A3 es.length c3,.slice A4 as_.length c4] 39));rwa [show (w.alloc (.cells #[.string nm,.int .i64 sa,.slice A2 ps.length c2,.slice A3 es.length c3,.slice A4 as_.length c4] 39)).heap.size=w.heap.size+1 by simp] at this⟩
 have ha2:=(blk_cell BK.out 2).trans rfl;simp only [List.getElem?_toArray,List.getElem?_cons_zero,List.getElem?_cons_succ] at ha2;have hmm:=@run_makeMap Tryz.prog;go_enter Tryz.func112,Tryz.ntmps112;go_wp2;go_loopg [20] ps.length (fun gg v20 wr=>∃(i nK:Nat) (K:List ByteArray),i≤ps.length∧ps.length-i≤gg∧v20=.int .i64 (i:Int)∧Aside0 (nK≤6*i)∧Aside0 (sc_p (ps.drop i) i K=some y)∧Aside0 (Below w.heap.size w wr)∧Aside0 (wr.heap[w.heap.size]?=some (.cells #[.string nm,.int .i64 sa,.slice A2 ps.length c2,.slice A3 es.length c3,.slice A4 as_.length c4] 39 (0,0)))∧Aside0 (SetS wr (w.heap.size+1) nK K))
 case atStart=>exact ⟨0,0,[],Nat.zero_le _,Nat.le_refl _,rfl,⟨Nat.le_refl _⟩,HY,HB,BK,SK⟩
 clear SK BK HB ha2 HY;obtain ⟨i,nK,K,hi,hgg,rfl,HN,HY,HB,BK,SK⟩:=hrel;obtain ⟨wa,hwa⟩:∃x,x=wr:=⟨_,rfl⟩;subst hwa;by_cases hlt:i<ps.length
 ·have hz:(i:Int)<(ps.length:Int):=by omega
  have hz0:(0:Int)≤(i:Int):=by omega
  obtain ⟨ad,A5,c5,e0,hx0,hx1,hx2,hl5,hC5⟩:=at_T42 HR2.out (i:Int) hz0 hz;cases e0;replace hx0:=mx_ HB hx0;replace hx1:=mx_ HB hx1;replace hx2:=mx_ HB hx2;simp only [Int.toNat_natCast] at hx0 hx1 hx2;have HC5:=a_ hC5;have hst:=sc_p_cons ps i hlt K y HY.out;clear hC5 hl5;generalize rd_T42 ps (i:Int)=p5 at *;obtain ⟨hl6,hst⟩:=hst;have HL6:=a_ hl6;clear hl6;obtain ⟨yt,hyt,hst⟩:=Option.bind_eq_some_iff.1 hst;have HT:Aside0 (sc_t K (p5.f2.drop 0) []=some yt):=⟨hyt⟩
  have HST:=a_ hst;clear hyt hst;have HS1:Aside0 (w.heap.size+1<wa.heap.size):=⟨SK.out.lt⟩
  have BP:=a_ (blk_alloc (blk_new wa (.cells #[.bool p5.f0,.string p5.f1,.slice A5 p5.f2.length c5] 42)) (.map #[] 0));have SL:Aside0 (SetS ((wa.alloc (.cells #[.bool p5.f0,.string p5.f1,.slice A5 p5.f2.length c5] 42)).alloc (.map #[] 0)) (wa.heap.size+1) 0 []):=⟨by have:=SetS_made (wa.alloc (.cells #[.bool p5.f0,.string p5.f1,.slice A5 p5.f2.length c5] 42));rwa [show (wa.alloc (.cells #[.bool p5.f0,.string p5.f1,.slice A5 p5.f2.length c5] 42)).heap.size=wa.heap.size+1 by simp] at this⟩
  have hp2:=(blk_cell BP.out 2).trans rfl;simp only [List.getElem?_toArray,List.getElem?_cons_zero,List.getElem?_cons_succ] at hp2;go_wp2;go_loopg [29] p5.f2.length (fun gg v29 wr=>∃(j nL:Nat) (L:List ByteArray),j≤p5.f2.length∧p5.f2.length-j≤gg∧v29=.int .i64 (j:Int)∧Aside0 (nL≤j)∧Aside0 (sc_t K (p5.f2.drop j) L=some yt)∧Aside0 (Below w.heap.size w wr)∧Aside0 (wr.heap[w.heap.size]?=some (.cells #[.string nm,.int .i64 sa,.slice (some ad) ps.length c2,.slice A3 es.length c3,.slice A4 as_.length c4] 39 (0,0)))∧Aside0 (wr.heap[wa.heap.size]?=some (.cells #[.bool p5.f0,.string p5.f1,.slice A5 p5.f2.length c5] 42 (0,0)))∧Aside0 (SetS wr (w.heap.size+1) nK K)∧Aside0 (SetS wr (wa.heap.size+1) nL L))
  case atStart=>exact ⟨0,0,[],Nat.zero_le _,Nat.le_refl _,rfl,⟨Nat.le_refl _⟩,HT,⟨below_alloc (below_alloc HB.out _) _⟩,⟨blk_alloc (blk_alloc BK.out _) _⟩,BP,⟨SetS.alloc (SetS.alloc SK.out _) _⟩,SL⟩
  clear SL BP HT hp2;obtain ⟨j,nL,L,hj,hggj,rfl,HNL,HT,HB4,BK4,BP4,SK4,SL4⟩:=hrel;by_cases hltj:j<p5.f2.length
  ·have hzj:(j:Int)<(p5.f2.length:Int):=by omega
   have hzj0:(0:Int)≤(j:Int):=by omega
   have HJ6:Aside0 (j≤6):=⟨by have:=HL6.out;omega⟩
   obtain ⟨adt,e0,ht0,ht1,ht2,ht3,ht4,ht5⟩:=at_T86 HC5.out (j:Int) hzj0 hzj;cases e0;replace ht0:=(HB4.out.cell (World.block_lt_of_cell? w _ ht0)).trans ht0;replace ht1:=(HB4.out.cell (World.block_lt_of_cell? w _ ht1)).trans ht1;replace ht2:=(HB4.out.cell (World.block_lt_of_cell? w _ ht2)).trans ht2;replace ht3:=(HB4.out.cell (World.block_lt_of_cell? w _ ht3)).trans ht3;replace ht4:=(HB4.out.cell (World.block_lt_of_cell? w _ ht4)).trans ht4;replace ht5:=(HB4.out.cell (World.block_lt_of_cell? w _ ht5)).trans ht5;simp only [Int.toNat_natCast] at ht0 ht1 ht2 ht3 ht4 ht5;have hst:=sc_t_cons K p5.f2 j hltj L yt HT.out;generalize rd_T86 p5.f2 (j:Int)=t at *;obtain ⟨hsz,hst⟩:=hst;have HSZ:=a_ hsz;clear hsz;have hwj:wrap64 ((j:Int)+1)=((j+1:Nat):Int):=by unfold wrap64;have:=HJ6.out;omega
   have HWJ:=a_ hwj;clear hwj;by_cases k3:t.f0=3
   ·have p3:(t.f0==3)=true:=by simpa using k3
    have p2:(t.f0==2)=false:=by rw [k3];rfl
    have n2:¬t.f0=2:=by omega
    cases hemp:t.f2.toList.isEmpty with
    | true=>
     rw [if_neg (fun q=>by have:=q.2.1;rw [hemp] at this;cases this),if_neg n2] at hst;have HST2:=a_ hst;clear hst k3 n2;go_wp2;go_roundg (p5.f2.length-(j+1))
     case measure=>omega
     case rel=>exact ⟨j+1,nL,L,by omega,by omega,by rw [HWJ.out],⟨by have:=HNL.out;omega⟩,HST2,⟨below_alloc HB4.out _⟩,⟨blk_alloc BK4.out _⟩,⟨blk_alloc BP4.out _⟩,⟨SetS.alloc SK4.out _⟩,⟨SetS.alloc SL4.out _⟩⟩
    | false=>
     cases hk:memS t.f2 K with
     | true=>
      rw [if_neg (fun q=>by have:=q.2.2.1;rw [hk] at this;cases this),if_neg n2] at hst;have HST2:=a_ hst;clear hst k3 n2;go_wp2_with fail;refine (impl_nameSet_has.calls (w.heap.size+1) nK K t.f2 _ (SetS.alloc SK4.out (.cells #[.int .i64 t.f0,.int .i64 t.f1,.string t.f2,.int .i64 t.f3.f0,.int .i64 t.f3.f1,.string t.f3.f2] 86)) HSZ.out).mono ?_;rintro e w5 ⟨rfl,hd⟩;have HB5:=a_ (below_step (below_alloc HB4.out (.cells #[.int .i64 t.f0,.int .i64 t.f1,.string t.f2,.int .i64 t.f3.f0,.int .i64 t.f3.f1,.string t.f3.f2] 86)) hd);have BK5:=a_ (blk_below (blk_alloc BK4.out (.cells #[.int .i64 t.f0,.int .i64 t.f1,.string t.f2,.int .i64 t.f3.f0,.int .i64 t.f3.f1,.string t.f3.f2] 86)) hd);have BP5:=a_ (blk_below (blk_alloc BP4.out (.cells #[.int .i64 t.f0,.int .i64 t.f1,.string t.f2,.int .i64 t.f3.f0,.int .i64 t.f3.f1,.string t.f3.f2] 86)) hd);have SK5:=a_ ((SetS.alloc SK4.out (.cells #[.int .i64 t.f0,.int .i64 t.f1,.string t.f2,.int .i64 t.f3.f0,.int .i64 t.f3.f1,.string t.f3.f2] 86)).kept (grown_of_below hd none) (by simp));have SL5:=a_ ((SetS.alloc SL4.out (.cells #[.int .i64 t.f0,.int .i64 t.f1,.string t.f2,.int .i64 t.f3.f0,.int .i64 t.f3.f1,.string t.f3.f2] 86)).kept (grown_of_below hd none) (by simp));have BT5:=blk_below (blk_new wr (.cells #[.int .i64 t.f0,.int .i64 t.f1,.string t.f2,.int .i64 t.f3.f0,.int .i64 t.f3.f1,.string t.f3.f2] 86)) hd;have hq0:=(blk_cell BT5 0).trans rfl;have hq2:=(blk_cell BT5 2).trans rfl;simp only [List.getElem?_toArray,List.getElem?_cons_zero,List.getElem?_cons_succ] at hq0 hq2;clear hd BT5;go_wp2;go_roundg (p5.f2.length-(j+1))
      case measure=>omega
      case rel=>exact ⟨j+1,nL,L,by omega,by omega,by rw [HWJ.out],⟨by have:=HNL.out;omega⟩,HST2,HB5,BK5,BP5,SK5,SL5⟩
     | false=>
      cases hl:memS t.f2 L with
      | true=>
       rw [if_neg (fun q=>by have:=q.2.2.2;rw [hl] at this;cases this),if_neg n2] at hst;have HST2:=a_ hst;clear hst k3 n2;go_wp2_with fail;refine (impl_nameSet_has.calls (w.heap.size+1) nK K t.f2 _ (SetS.alloc SK4.out (.cells #[.int .i64 t.f0,.int .i64 t.f1,.string t.f2,.int .i64 t.f3.f0,.int .i64 t.f3.f1,.string t.f3.f2] 86)) HSZ.out).mono ?_;rintro e w5 ⟨rfl,hd⟩;have HB5:=a_ (below_step (below_alloc HB4.out (.cells #[.int .i64 t.f0,.int .i64 t.f1,.string t.f2,.int .i64 t.f3.f0,.int .i64 t.f3.f1,.string t.f3.f2] 86)) hd);have BK5:=a_ (blk_below (blk_alloc BK4.out (.cells #[.int .i64 t.f0,.int .i64 t.f1,.string t.f2,.int .i64 t.f3.f0,.int .i64 t.f3.f1,.string t.f3.f2] 86)) hd);have BP5:=a_ (blk_below (blk_alloc BP4.out (.cells #[.int .i64 t.f0,.int .i64 t.f1,.string t.f2,.int .i64 t.f3.f0,.int .i64 t.f3.f1,.string t.f3.f2] 86)) hd);have SK5:=a_ ((SetS.alloc SK4.out (.cells #[.int .i64 t.f0,.int .i64 t.f1,.string t.f2,.int .i64 t.f3.f0,.int .i64 t.f3.f1,.string t.f3.f2] 86)).kept (grown_of_below hd none) (by simp));have SL5:=a_ ((SetS.alloc SL4.out (.cells #[.int .i64 t.f0,.int .i64 t.f1,.string t.f2,.int .i64 t.f3.f0,.int .i64 t.f3.f1,.string t.f3.f2] 86)).kept (grown_of_below hd none) (by simp));have BT5:=blk_below (blk_new wr (.cells #[.int .i64 t.f0,.int .i64 t.f1,.string t.f2,.int .i64 t.f3.f0,.int .i64 t.f3.f1,.string t.f3.f2] 86)) hd;have hq0:=(blk_cell BT5 0).trans rfl;have hq2:=(blk_cell BT5 2).trans rfl;simp only [List.getElem?_toArray,List.getElem?_cons_zero,List.getElem?_cons_succ] at hq0 hq2;clear hd BT5;go_wp2_with fail;refine (impl_nameSet_has.calls (wa.heap.size+1) nL L t.f2 _ SL5.out HSZ.out).mono ?_;rintro e w6 ⟨rfl,hd⟩;have HB6:=a_ (below_step HB5.out hd);have BK6:=a_ (blk_below BK5.out hd);have BP6:=a_ (blk_below BP5.out hd);have SK6:=a_ (SK5.out.kept (grown_of_below hd none) (by simp));have SL6:=a_ (SL5.out.kept (grown_of_below hd none) (by simp));have hv0:=pw_cell_below hd hq0;have hv2:=pw_cell_below hd hq2;clear hd;go_wp2;go_roundg (p5.f2.length-(j+1))
       case measure=>omega
       case rel=>exact ⟨j+1,nL,L,by omega,by omega,by rw [HWJ.out],⟨by have:=HNL.out;omega⟩,HST2,HB6,BK6,BP6,SK6,SL6⟩
      | false=>
       rw [if_pos ⟨k3,hemp,hk,hl⟩] at hst;have e1:=Option.some.inj hst;have hs2:=HST.out;rw [←e1,if_neg (by simp)] at hs2;have e2:=Option.some.inj hs2;have hs3:=HH.out;rw [←e2] at hs3;have hn1:¬((i:Int)+1=-1):=by omega
       replace hs3:(if (i:Int)+1=-1 then _ else some ((i:Int)+1))=some r:=hs3
       rw [if_neg hn1] at hs3;have HR:Aside0 ((i:Int)+1=r):=⟨Option.some.inj hs3⟩
       clear hst k3 n2 e1 hs2 e2 hs3 hn1;go_wp2_with fail;refine (impl_nameSet_has.calls (w.heap.size+1) nK K t.f2 _ (SetS.alloc SK4.out (.cells #[.int .i64 t.f0,.int .i64 t.f1,.string t.f2,.int .i64 t.f3.f0,.int .i64 t.f3.f1,.string t.f3.f2] 86)) HSZ.out).mono ?_;rintro e w5 ⟨rfl,hd⟩;have HB5:=a_ (below_step (below_alloc HB4.out (.cells #[.int .i64 t.f0,.int .i64 t.f1,.string t.f2,.int .i64 t.f3.f0,.int .i64 t.f3.f1,.string t.f3.f2] 86)) hd);have BK5:=a_ (blk_below (blk_alloc BK4.out (.cells #[.int .i64 t.f0,.int .i64 t.f1,.string t.f2,.int .i64 t.f3.f0,.int .i64 t.f3.f1,.string t.f3.f2] 86)) hd);have BP5:=a_ (blk_below (blk_alloc BP4.out (.cells #[.int .i64 t.f0,.int .i64 t.f1,.string t.f2,.int .i64 t.f3.f0,.int .i64 t.f3.f1,.string t.f3.f2] 86)) hd);have SK5:=a_ ((SetS.alloc SK4.out (.cells #[.int .i64 t.f0,.int .i64 t.f1,.string t.f2,.int .i64 t.f3.f0,.int .i64 t.f3.f1,.string t.f3.f2] 86)).kept (grown_of_below hd none) (by simp));have SL5:=a_ ((SetS.alloc SL4.out (.cells #[.int .i64 t.f0,.int .i64 t.f1,.string t.f2,.int .i64 t.f3.f0,.int .i64 t.f3.f1,.string t.f3.f2] 86)).kept (grown_of_below hd none) (by simp));have BT5:=blk_below (blk_new wr (.cells #[.int .i64 t.f0,.int .i64 t.f1,.string t.f2,.int .i64 t.f3.f0,.int .i64 t.f3.f1,.string t.f3.f2] 86)) hd;have hq0:=(blk_cell BT5 0).trans rfl;have hq2:=(blk_cell BT5 2).trans rfl;simp only [List.getElem?_toArray,List.getElem?_cons_zero,List.getElem?_cons_succ] at hq0 hq2;clear hd BT5;go_wp2_with fail;refine (impl_nameSet_has.calls (wa.heap.size+1) nL L t.f2 _ SL5.out HSZ.out).mono ?_;rintro e w6 ⟨rfl,hd⟩;have HB6:=a_ (below_step HB5.out hd);have BK6:=a_ (blk_below BK5.out hd);have BP6:=a_ (blk_below BP5.out hd);have SK6:=a_ (SK5.out.kept (grown_of_below hd none) (by simp));have SL6:=a_ (SL5.out.kept (grown_of_below hd none) (by simp));have hv0:=pw_cell_below hd hq0;have hv2:=pw_cell_below hd hq2;clear hd;go_wp2;go_ret;exact ⟨by rw [←HR.out,show wrap64 ((i:Int)+1)=(i:Int)+1 by unfold wrap64;have:=C0.out.1;omega];rfl,HB6.out⟩
   ·have p3:(t.f0==3)=false:=by simpa using k3
    rw [if_neg (fun q=>k3 q.1)] at hst;by_cases k2:t.f0=2
    ·have p2:(t.f0==2)=true:=by simpa using k2
     rw [if_pos k2] at hst;have HST2:=a_ hst;clear hst k3 k2;go_wp2_with (at_mapUpdate;refine wpList_addS rfl _ _ _ 171 172 Tryz.underlying171 rfl (wa.heap.size+1) nL L (SetS.alloc SL4.out _) (lt_maxLen (by have:=HNL.out;have:=HJ6.out;omega)) rfl t.f2 HSZ.out rfl rfl ?_;intro w2 hs2 hg2;have HB5:Aside0 (Below w.heap.size w w2):=⟨(below_alloc HB4.out _).grown hg2 (by have:=HS1.out;have:=HB4.out.size;simp;omega) (by intro q e;injection e with e;have:=HS1.out;omega)⟩;have BK5:=a_ (blk_grown (blk_alloc BK4.out (.cells #[.int .i64 t.f0,.int .i64 t.f1,.string t.f2,.int .i64 t.f3.f0,.int .i64 t.f3.f1,.string t.f3.f2] 86)) hg2 (by intro e;injection e with e;have:=HS1.out;omega));have BP5:=a_ (blk_grown (blk_alloc BP4.out (.cells #[.int .i64 t.f0,.int .i64 t.f1,.string t.f2,.int .i64 t.f3.f0,.int .i64 t.f3.f1,.string t.f3.f2] 86)) hg2 (by intro e;injection e with e;omega));have SK5:=a_ ((SetS.alloc SK4.out (.cells #[.int .i64 t.f0,.int .i64 t.f1,.string t.f2,.int .i64 t.f3.f0,.int .i64 t.f3.f1,.string t.f3.f2] 86)).kept hg2 (by intro e;injection e with e;have:=HS1.out;omega));have SL5:=a_ hs2;clear hs2 hg2;go_frame);go_roundg (p5.f2.length-(j+1))
     case measure=>omega
     case rel=>exact ⟨j+1,nL+1,t.f2::L,by omega,by omega,by rw [HWJ.out],⟨by have:=HNL.out;omega⟩,HST2,HB5,BK5,BP5,SK5,SL5⟩
    ·have p2:(t.f0==2)=false:=by simpa using k2
     rw [if_neg k2] at hst;have HST2:=a_ hst;clear hst k3 k2;go_wp2;go_roundg (p5.f2.length-(j+1))
     case measure=>omega
     case rel=>exact ⟨j+1,nL,L,by omega,by omega,by rw [HWJ.out],⟨by have:=HNL.out;omega⟩,HST2,⟨below_alloc HB4.out _⟩,⟨blk_alloc BK4.out _⟩,⟨blk_alloc BP4.out _⟩,⟨SetS.alloc SK4.out _⟩,⟨SetS.alloc SL4.out _⟩⟩
  ·have hjl:j=p5.f2.length:=by omega
   have e0:=HT.out;rw [hjl,List.drop_length] at e0;unfold sc_t at e0
   have e1:=Option.some.inj e0;have hs2:=HST.out;rw [←e1,if_pos rfl] at hs2;have HST2:=a_ hs2;have HJ6:Aside0 (nL≤6):=⟨by have:=HNL.out;have:=HL6.out;omega⟩
   have HWI:Aside0 (wrap64 ((i:Int)+1)=((i+1:Nat):Int)):=⟨by unfold wrap64;have:=C0.out.1;omega⟩
   clear e0 e1 hs2 hjl HT;obtain ⟨wb,hwb⟩:∃x,x=wr:=⟨_,rfl⟩;subst hwb;have hp0:=(blk_cell BP4.out 0).trans rfl;simp only [List.getElem?_toArray,List.getElem?_cons_zero,List.getElem?_cons_succ] at hp0;cases hneg:p5.f0 with
   | true=>
    rw [hneg] at hp0;have HST3:=HST2.out;rw [hneg,if_pos rfl] at HST3;have HST4:=a_ HST3;clear HST3 hneg;go_wp2;go_roundg (ps.length-(i+1))
    case measure=>omega
    case rel=>exact ⟨i+1,nK,K,by omega,by omega,by rw [HWI.out],⟨by have:=HN.out;omega⟩,HST4,HB4,BK4,SK4⟩
   | false=>
    rw [hneg] at hp0;have HST3:=HST2.out;rw [hneg,if_neg (by simp)] at HST3;have HST4:=a_ HST3;clear HST3 hneg;have hbs:wa.heap.size+1<wb.heap.size:=SL4.out.lt
    have HBS:=a_ hbs;clear hbs;go_wp2_with (at_range;refine wpList_rangeU rfl _ 171 172 Tryz.underlying171 rfl (wa.heap.size+1) nL L SL4.out (w.heap.size+1) nK K SK4.out rfl ?_;intro w2 cnt0 hu2 hg2 hs2;have HU2:=a_ hu2;have HB5:Aside0 (Below w.heap.size w w2):=⟨HB4.out.grown hg2 HB4.out.size (fun _ e=>by cases e)⟩;have BK5:=a_ (blk_grown BK4.out hg2 (by simp));clear hu2 hg2 hs2;go_frame);go_loopg [9] cnt0 (fun gg v9 wr=>∃cnt:Nat,cnt≤gg∧Aside0 (URel wr (wa.heap.size+1) wb.heap.size nL L (w.heap.size+1) nK K cnt)∧Aside0 (Below w.heap.size w wr)∧Aside0 (wr.heap[w.heap.size]?=some (.cells #[.string nm,.int .i64 sa,.slice (some ad) ps.length c2,.slice A3 es.length c3,.slice A4 as_.length c4] 39 (0,0))))
    case atStart=>exact ⟨cnt0,Nat.le_refl _,HU2,HB5,BK5⟩
    obtain ⟨cnt,hcg,HU,HB6,BK6⟩:=hrel;go_wp2_with (at_next;refine wpList_nextU rfl _ rfl (wa.heap.size+1) wb.heap.size nL L (w.heap.size+1) nK K cnt rfl HU.out ?_ ?_)
    ·intro hs;have SK7:=a_ hs;clear hs;go_wp2;go_roundg (ps.length-(i+1))
     case measure=>omega
     case rel=>exact ⟨i+1,nK+nL,L++K,by omega,by omega,by rw [HWI.out],⟨by have:=HN.out;have:=HJ6.out;omega⟩,HST4,HB6,BK6,SK7⟩
    ·intro x w3 cnt3 hxs hlt3 hmid hg3 hs3 hen;have HM:=a_ hmid;have HXS:=a_ hxs;have HB7:Aside0 (Below w.heap.size w w3):=⟨HB6.out.grown hg3 HB6.out.size (by intro q e;injection e with e;have:=HS1.out;have:=HBS.out;omega)⟩
     have BK7:=a_ (blk_grown BK6.out hg3 (by intro e;injection e with e;have:=HS1.out;have:=HBS.out;omega));clear hmid hxs hg3 hs3;go_wp2_with (at_mapUpdate;refine wpList_addU rfl _ _ _ 171 172 Tryz.underlying171 rfl (wa.heap.size+1) wb.heap.size nL L (w.heap.size+1) nK K cnt3 x HM.out (by have:=HS1.out;omega) (lt_maxLen (by have:=HN.out;have:=HJ6.out;have:=C0.out.1;omega)) rfl HXS.out rfl rfl ?_;intro w4 hu4 hg4;have HU4:=a_ hu4;have HB8:Aside0 (Below w.heap.size w w4):=⟨HB7.out.grown hg4 HB7.out.size (by intro q e;injection e with e;omega)⟩;have BK8:=a_ (blk_grown BK7.out hg4 (by intro e;injection e with e;omega));clear hu4 hg4;go_frame);go_roundg cnt3
     case measure=>omega
     case rel=>exact ⟨cnt3,Nat.le_refl _,HU4,HB8,BK8⟩
 ·have hil:i=ps.length:=by omega
  subst hil;have e0:=HY.out;rw [List.drop_length] at e0;unfold sc_p at e0
  have e1:=Option.some.inj e0;have h2:=HH.out;rw [←e1,if_pos rfl] at h2;have HA:Aside0 (sc_acts es K ps.length (as_.drop 0) 0 0=some r):=⟨h2⟩
  clear e0 e1 h2 HY HH;have ha4:=(blk_cell BK.out 4).trans rfl;simp only [List.getElem?_toArray,List.getElem?_cons_zero,List.getElem?_cons_succ] at ha4;go_wp2;go_loopg [83,10] as_.length (fun gg v83 v10 wr=>∃(m:Nat) (k:Int),m≤as_.length∧as_.length-m≤gg∧v83=.int .i64 (m:Int)∧v10=.int .i64 k∧Aside0 (sc_acts es K ps.length (as_.drop m) m k=some r)∧Aside0 (Below w.heap.size w wr)∧Aside0 (wr.heap[w.heap.size]?=some (.cells #[.string nm,.int .i64 sa,.slice A2 ps.length c2,.slice A3 es.length c3,.slice A4 as_.length c4] 39 (0,0)))∧Aside0 (SetS wr (w.heap.size+1) nK K))
  case atStart=>exact ⟨0,0,Nat.zero_le _,Nat.le_refl _,rfl,rfl,HA,HB,BK,SK⟩
  clear HA ha4 HB BK SK;obtain ⟨m,k,hm,hggm,rfl,rfl,HA,HB,BK,SK⟩:=hrel;by_cases hltm:m<as_.length
  ·have hz:(m:Int)<(as_.length:Int):=by omega
   have hz0:(0:Int)≤(m:Int):=by omega
   have HM8:Aside0 (m≤8):=⟨by have:=C0.out.2.2;omega⟩
   obtain ⟨ad,A7,c7,e0,hx0,hx1,hx2,hx3,hl7,hC7⟩:=at_T98 HR4.out (m:Int) hz0 hz;cases e0;replace hx0:=mx_ HB hx0;replace hx1:=mx_ HB hx1;replace hx2:=mx_ HB hx2;replace hx3:=mx_ HB hx3;simp only [Int.toNat_natCast] at hx0 hx1 hx2 hx3;have HC7:=a_ hC7;have hst:=sc_acts_cons es K ps.length as_ m hltm k r HA.out;clear hC7 hl7;generalize rd_T98 as_ (m:Int)=a7 at *;obtain ⟨yd,hyd,hst⟩:=Option.bind_eq_some_iff.1 hst;have HD:Aside0 (sc_args es K (a7.f3.drop 0) k=some yd):=⟨hyd⟩
   have HST:=a_ hst;clear hyd hst;obtain ⟨wc,hwc⟩:∃x,x=wr:=⟨_,rfl⟩;subst hwc;go_wp2;go_loopg [91,10] a7.f3.length (fun gg v91 v10 wr=>∃(q:Nat) (k:Int),q≤a7.f3.length∧a7.f3.length-q≤gg∧v91=.int .i64 (q:Int)∧v10=.int .i64 k∧Aside0 (sc_args es K (a7.f3.drop q) k=some yd)∧Aside0 (Below w.heap.size w wr)∧Aside0 (wr.heap[w.heap.size]?=some (.cells #[.string nm,.int .i64 sa,.slice A2 ps.length c2,.slice A3 es.length c3,.slice (some ad) as_.length c4] 39 (0,0)))∧Aside0 (SetS wr (w.heap.size+1) nK K))
   case atStart=>exact ⟨0,k,Nat.zero_le _,Nat.le_refl _,rfl,rfl,HD,⟨below_alloc HB.out _⟩,⟨blk_alloc BK.out _⟩,⟨SetS.alloc SK.out _⟩⟩
   clear HD HB BK SK;obtain ⟨q,k,hq,hggq,rfl,rfl,HD,HB,BK,SK⟩:=hrel;by_cases hltq:q<a7.f3.length
   ·have hzq:(q:Int)<(a7.f3.length:Int):=by omega
    have hzq0:(0:Int)≤(q:Int):=by omega
    have HQL:Aside0 (a7.f3.length≤9223372036854775807):=⟨HC7.out.2.1⟩
    obtain ⟨adq,eq0,hxq⟩:=Kd.at_int HC7.out (q:Int) hzq0 hzq;subst eq0;replace hxq:=mx_ HB hxq;simp only [Int.toNat_natCast] at hxq;have hst:=sc_args_cons es K a7.f3 q hltq k yd HD.out;generalize rd a7.f3 (q:Int)=v at *;obtain ⟨ye,hye,hst⟩:=Option.bind_eq_some_iff.1 hst;have HE:=a_ hye;have HST2:=a_ hst;clear hye hst;obtain ⟨wd,hwd⟩:∃x,x=wr:=⟨_,rfl⟩;subst hwd;go_wp2;go_loopg [10] es.length (fun gg v10 wr=>∃(fu:Nat) (k:Int),fu≤gg∧v10=.int .i64 k∧Aside0 (sc_e es K fu k v=some ye)∧Aside0 (Below w.heap.size w wr)∧Aside0 (wr.heap[w.heap.size]?=some (.cells #[.string nm,.int .i64 sa,.slice A2 ps.length c2,.slice A3 es.length c3,.slice (some ad) as_.length c4] 39 (0,0)))∧Aside0 (SetS wr (w.heap.size+1) nK K))
    case atStart=>exact ⟨es.length,k,Nat.le_refl _,rfl,HE,HB,BK,SK⟩
    clear HE HB BK SK;obtain ⟨fu,k,hfu,rfl,HE,HB,BK,SK⟩:=hrel;by_cases hkv:k≤v
    ·cases fu with
     | zero=>
      have e0:=HE.out;unfold sc_e at e0
      rw [if_pos hkv] at e0;cases e0
     | succ fu=>
      have e0:=HE.out;unfold sc_e at e0
      rw [if_pos hkv] at e0;by_cases hc:0≤k∧k<(es.length:Int)∧(rd_T161 es k).f2.size≤maxLen
      rotate_left
      ·rw [if_neg hc] at e0;cases e0
      rw [if_pos hc] at e0;obtain ⟨hk0,hk1,hsz⟩:=hc;have HSZ:=a_ hsz;clear hsz;have HK60:Aside0 (wrap64 (k+1)=k+1):=⟨by unfold wrap64;have:=C0.out.2.1;omega⟩
      obtain ⟨ade,ee0,hx0,hx1,hx2,hx3,hx4,hx5,hx6,hx7⟩:=at_T161 HR3.out k hk0 hk1;cases ee0;replace hx0:=mx_ HB hx0;replace hx1:=mx_ HB hx1;replace hx2:=mx_ HB hx2;replace hx3:=mx_ HB hx3;replace hx4:=mx_ HB hx4;replace hx5:=mx_ HB hx5;replace hx6:=mx_ HB hx6;replace hx7:=mx_ HB hx7;have hb3:=(blk_cell BK.out 3).trans rfl;simp only [List.getElem?_toArray,List.getElem?_cons_zero,List.getElem?_cons_succ] at hb3;have qkv:decide (k≤v)=true:=decide_eq_true hkv
      generalize rd_T161 es k=x at *;by_cases k1:x.f0=1
      ·have p1:(x.f0==1)=true:=by simpa using k1
       cases hk:memS x.f2 K with
       | true=>
        rw [if_neg (fun q=>by have:=q.2;rw [hk] at this;cases this)] at e0;have HE2:=a_ e0;clear e0 k1 hkv;go_wp2_with fail;refine (impl_nameSet_has.calls (w.heap.size+1) nK K x.f2 _ (SetS.alloc SK.out (.cells #[.int .i64 x.f0,.int .u8 x.f1,.string x.f2,.int .i64 x.f3.f0,.int .i64 x.f3.f1,.string x.f3.f2,.int .i64 x.f4,.int .i64 x.f5] 161)) HSZ.out).mono ?_;rintro e w5 ⟨rfl,hd⟩;have HB5:=a_ (below_step (below_alloc HB.out (.cells #[.int .i64 x.f0,.int .u8 x.f1,.string x.f2,.int .i64 x.f3.f0,.int .i64 x.f3.f1,.string x.f3.f2,.int .i64 x.f4,.int .i64 x.f5] 161)) hd);have BK5:=a_ (blk_below (blk_alloc BK.out (.cells #[.int .i64 x.f0,.int .u8 x.f1,.string x.f2,.int .i64 x.f3.f0,.int .i64 x.f3.f1,.string x.f3.f2,.int .i64 x.f4,.int .i64 x.f5] 161)) hd);have SK5:=a_ ((SetS.alloc SK.out (.cells #[.int .i64 x.f0,.int .u8 x.f1,.string x.f2,.int .i64 x.f3.f0,.int .i64 x.f3.f1,.string x.f3.f2,.int .i64 x.f4,.int .i64 x.f5] 161)).kept (grown_of_below hd none) (by simp));clear hd;go_wp2;go_roundg fu
        case measure=>omega
        case rel=>exact ⟨fu,k+1,Nat.le_refl _,by rw [HK60.out],HE2,HB5,BK5,SK5⟩
       | false=>
        rw [if_pos ⟨k1,hk⟩] at e0;have e1:=Option.some.inj e0;have h3:=HST2.out;rw [←e1,if_neg (by simp)] at h3;have e2:=Option.some.inj h3;have h4:=HST.out;rw [←e2,if_neg (by simp)] at h4;have HR:Aside0 ((ps.length:Int)+(m:Int)+1=r):=⟨Option.some.inj h4⟩
        clear e0 e1 h3 e2 h4 k1 hkv;go_wp2_with fail;refine (impl_nameSet_has.calls (w.heap.size+1) nK K x.f2 _ (SetS.alloc SK.out (.cells #[.int .i64 x.f0,.int .u8 x.f1,.string x.f2,.int .i64 x.f3.f0,.int .i64 x.f3.f1,.string x.f3.f2,.int .i64 x.f4,.int .i64 x.f5] 161)) HSZ.out).mono ?_;rintro e w5 ⟨rfl,hd⟩;have HB5:=a_ (below_step (below_alloc HB.out (.cells #[.int .i64 x.f0,.int .u8 x.f1,.string x.f2,.int .i64 x.f3.f0,.int .i64 x.f3.f1,.string x.f3.f2,.int .i64 x.f4,.int .i64 x.f5] 161)) hd);have BK5:=a_ (blk_below (blk_alloc BK.out (.cells #[.int .i64 x.f0,.int .u8 x.f1,.string x.f2,.int .i64 x.f3.f0,.int .i64 x.f3.f1,.string x.f3.f2,.int .i64 x.f4,.int .i64 x.f5] 161)) hd);have SK5:=a_ ((SetS.alloc SK.out (.cells #[.int .i64 x.f0,.int .u8 x.f1,.string x.f2,.int .i64 x.f3.f0,.int .i64 x.f3.f1,.string x.f3.f2,.int .i64 x.f4,.int .i64 x.f5] 161)).kept (grown_of_below hd none) (by simp));clear hd;have hb2:=(blk_cell BK5.out 2).trans rfl;simp only [List.getElem?_toArray,List.getElem?_cons_zero,List.getElem?_cons_succ] at hb2;go_wp2;go_ret;exact ⟨by rw [←HR.out,show wrap64 ((ps.length:Int)+(m:Int))=(ps.length:Int)+(m:Int) by unfold wrap64;have:=C0.out.1;have:=HM8.out;omega,show wrap64 ((ps.length:Int)+(m:Int)+1)=(ps.length:Int)+(m:Int)+1 by unfold wrap64;have:=C0.out.1;have:=HM8.out;omega];rfl,HB5.out⟩
      ·have p1:(x.f0==1)=false:=by simpa using k1
       rw [if_neg (fun q=>k1 q.1)] at e0;have HE2:=a_ e0;clear e0 k1 hkv;go_wp2;go_roundg fu
       case measure=>omega
       case rel=>exact ⟨fu,k+1,Nat.le_refl _,by rw [HK60.out],HE2,⟨below_alloc HB.out _⟩,⟨blk_alloc BK.out _⟩,⟨SetS.alloc SK.out _⟩⟩
    ·have qkv:decide (k≤v)=false:=decide_eq_false hkv
     have e0:sc_e es K fu k v=some (true,k):=by
      cases fu<;>(unfold sc_e;rw [if_neg hkv])
     rw [HE.out] at e0;have e1:=Option.some.inj e0;have h3:=HST2.out;rw [e1,if_pos rfl] at h3;have HST3:=a_ h3;clear e0 e1 h3 hkv;go_wp2;go_roundg (a7.f3.length-(q+1))
     case measure=>omega
     case rel=>exact ⟨q+1,k,by omega,by omega,by rw [show wrap64 ((q:Int)+1)=((q+1:Nat):Int) by unfold wrap64;have:=HQL.out;omega],rfl,HST3,HB,BK,SK⟩
   ·have hql:q=a7.f3.length:=by omega
    have e0:=HD.out;rw [hql,List.drop_length] at e0;unfold sc_args at e0
    have e1:=Option.some.inj e0;have h3:=HST.out;rw [←e1,if_pos rfl] at h3;have HST3:=a_ h3;clear e0 e1 h3 hql;go_wp2;go_roundg (as_.length-(m+1))
    case measure=>omega
    case rel=>exact ⟨m+1,k,by omega,by omega,by rw [show wrap64 ((m:Int)+1)=((m+1:Nat):Int) by unfold wrap64;have:=HM8.out;omega],rfl,HST3,HB,BK,SK⟩
  ·have hml:m=as_.length:=by omega
   have e0:=HA.out;rw [hml,List.drop_length] at e0;unfold sc_acts at e0
   have e1:=Option.some.inj e0;subst e1;clear e0 hml;go_wp2;go_ret;exact ⟨rfl,HB.out⟩
theorem impl_Rule_scopeFault.calls (a0_0:ByteArray) (a0_1:Int) (A0_2:Option Addr) (c0_2:Nat) (l0_2:List S42) (A0_3:Option Addr) (c0_3:Nat) (l0_3:List S161) (A0_4:Option Addr) (c0_4:Nat) (l0_4:List S98) (r:Int) (w:World) (hr0_2:Kd.C k42 w A0_2 l0_2.length l0_2) (hc0_2:l0_2.length≤c0_2) (hr0_3:Kd.C k161 w A0_3 l0_3.length l0_3) (hc0_3:l0_3.length≤c0_3) (hr0_4:Kd.C k98 w A0_4 l0_4.length l0_4) (hc0_4:l0_4.length≤c0_4) (h:impl_Rule_scopeFault.f a0_0 a0_1 l0_2 l0_3 l0_4=some r):
  Calls Tryz.prog 112 #[.agg #[.string a0_0,.int .i64 a0_1,.slice A0_2 l0_2.length c0_2,.slice A0_3 l0_3.length c0_3,.slice A0_4 l0_4.length c0_4]] w fun e w'=>e=.returned (.int .i64 r)∧Below w.heap.size w w':=
 impl_Rule_scopeFault.walk a0_0 a0_1 A0_2 c0_2 l0_2 A0_3 c0_3 l0_3 A0_4 c0_4 l0_4 r w hr0_2 hr0_3 hr0_4 h
end Go.Proofs.YtahambloheoebaaGreatDoor.P
namespace Go.Proofs.YtahambloheoebaaGreatDoor.P
open Go.Proofs.YtahambloheoebaaGreatDoorX
open Go.RowKit Go.Proofs.YtahambloheoebaaGreatDoorW.PrintWords Go.Proofs.YtahambloheoebaaGreatDoorW.PrintLast Go.Proofs.YtahambloheoebaaGreatDoorW.PrintMore
attribute [local go_sem] max2_int min2_int max_two min_two max_three min_three max_four min_four
set_option linter.unusedVariables false
set_option linter.unusedSimpArgs false
open Go.Proofs.YtahambloheoebaaGreatDoorX
def ck_acts (n:Int) (lp:Nat):List S98→Nat→Int
 | [],_=>-1
 | a::as_,j=>if (a.f0=2∨a.f0=3)∧(a.f1<1∨n<a.f1) then (lp:Int)+(j:Int)+1 else ck_acts n lp as_ (j+1)
def ck_rules (k:Nat):List S39→Nat→List ByteArray→Option (Int×Int×Int)
 | [],_,_=>some (0,0,0)
 | q::qs,i,M=>if q.f0.size≤maxLen then (impl_Rule_shapeFault.f q.f0 q.f1 q.f2 q.f3 q.f4).bind fun s=>if 0≤s then some (1,(i:Int),s) else
   if memS q.f0 M=true then some (2,(i:Int),0) else
   (impl_Rule_positives.f k q.f0 q.f1 q.f2 q.f3 q.f4).bind fun n=>if n<1∨3<n then some (3,(i:Int),0) else
   (impl_Rule_scopeFault.f q.f0 q.f1 q.f2 q.f3 q.f4).bind fun c=>if 0≤c then some (4,(i:Int),c) else
   if q.f2.length≤6∧q.f4.length≤8 then (if ck_acts n q.f2.length q.f4 0=-1 then ck_rules k qs (i+1) (q.f0::M) else some (5,(i:Int),ck_acts n q.f2.length q.f4 0)) else none
  else none
def impl_CheckRules.f (k:Nat) (l0:List S39):Option (Int×Int×Int):=if 16<l0.length then some (1,0,0) else ck_rules k l0 0 []
theorem ck_rules_mono (k:Nat):∀(l:List S39) (i:Nat) (M:List ByteArray),LeO (ck_rules k l i M) (ck_rules (k+1) l i M)
 | [],i,M=>LeO.refl _
 | q::qs,i,M=>LeO.ite (LeO.bind (LeO.refl _) (fun _=>LeO.ite (LeO.refl _) (LeO.ite (LeO.refl _) (LeO.bind (impl_Rule_positives.mono _ _ _ _ _ k) (fun _=>LeO.ite (LeO.refl _) (LeO.bind (LeO.refl _) (fun _=>LeO.ite (LeO.refl _) (LeO.ite (LeO.ite (ck_rules_mono k qs _ _) (LeO.refl _)) (LeO.refl _))))))))) (LeO.refl _)
theorem impl_CheckRules.mono:∀a0 k,LeO (impl_CheckRules.f k a0) (impl_CheckRules.f (k+1) a0):=by
 intro a0 k;unfold impl_CheckRules.f
 exact LeO.ite (LeO.refl _) (ck_rules_mono k _ _ _)
theorem ck_acts_cons (n:Int) (lp:Nat) (as_:List S98) (j:Nat) (h:j<as_.length) (v:Int) (hg:ck_acts n lp (as_.drop j) j=v):(if ((rd_T98 as_ (j:Int)).f0=2∨(rd_T98 as_ (j:Int)).f0=3)∧((rd_T98 as_ (j:Int)).f1<1∨n<(rd_T98 as_ (j:Int)).f1) then (lp:Int)+(j:Int)+1 else ck_acts n lp (as_.drop (j+1)) (j+1))=v:=by
 have e:rd_T98 as_ (j:Int)=as_[j]:=by
  unfold rd_T98
  simp [h]
 rw [List.drop_eq_getElem_cons h] at hg;unfold ck_acts at hg
 rw [e];exact hg
theorem ck_rules_cons (k:Nat) (l:List S39) (i:Nat) (h:i<l.length) (M:List ByteArray) (y:Int×Int×Int) (hg:ck_rules k (l.drop i) i M=some y):
  (fun q:S39=>if q.f0.size≤maxLen then (impl_Rule_shapeFault.f q.f0 q.f1 q.f2 q.f3 q.f4).bind fun s=>if 0≤s then some (1,(i:Int),s) else
   if memS q.f0 M=true then some (2,(i:Int),0) else
   (impl_Rule_positives.f k q.f0 q.f1 q.f2 q.f3 q.f4).bind fun n=>if n<1∨3<n then some (3,(i:Int),0) else
   (impl_Rule_scopeFault.f q.f0 q.f1 q.f2 q.f3 q.f4).bind fun c=>if 0≤c then some (4,(i:Int),c) else
   if q.f2.length≤6∧q.f4.length≤8 then (if ck_acts n q.f2.length q.f4 0=-1 then ck_rules k (l.drop (i+1)) (i+1) (q.f0::M) else some (5,(i:Int),ck_acts n q.f2.length q.f4 0)) else none
  else none) (rd_T39 l (i:Int))=some y:=by
 have e:rd_T39 l (i:Int)=l[i]:=by
  unfold rd_T39
  simp [h]
 rw [List.drop_eq_getElem_cons h] at hg;unfold ck_rules at hg
 rw [e];exact hg
theorem ck_res {w:World} {g:Nat} {a b c x y z:Int} (h:w.heap[g]?=some (.cells #[.int .i64 a,.int .i64 b,.int .i64 c] 128 (0,0))):
  (((w.setCell ⟨g,0,none⟩ (.int .i64 x)).setCell ⟨g,1,none⟩ (.int .i64 y)).setCell ⟨g,2,none⟩ (.int .i64 z)).heap[g]?=some (.cells #[.int .i64 x,.int .i64 y,.int .i64 z] 128 (0,0)):=
 blk_put (blk_put (blk_put h 0 _ rfl) 1 _ rfl) 2 _ rfl
theorem ck_below {w W:World} {g:Nat} {u v x:Value} (h:Below w.heap.size w W) (hg:w.heap.size≤g):Below w.heap.size w (((W.setCell ⟨g,0,none⟩ u).setCell ⟨g,1,none⟩ v).setCell ⟨g,2,none⟩ x):=
 below_set (below_set (below_set h hg) hg) hg
theorem u89e_2 {p:Prop} (h:p:=by
 exact ⟨j+1,by omega,by omega,by rw [show wrap64 ((j:Int)+1)=((j+1:Nat):Int) by unfold wrap64;have:=HJ8.out;omega],HM2,⟨below_alloc HB6.out _⟩,⟨blk_alloc BR6.out _⟩,⟨blk_alloc BX6.out _⟩,⟨SetS.alloc SN6.out _⟩⟩):p:=h
theorem u89e_0 {p:Prop} (h:p:=by
 subst hac;have h2:=HST.out;rw [if_neg (by omega)] at h2;cases h2;have hb2:=(blk_cell (blk_alloc BX6.out (.cells #[.int .i64 a.f0,.int .i64 a.f1,.string a.f2,.slice A7 a.f3.length c7] 98)) 2).trans rfl;have hr0:=(blk_cell (blk_alloc BR6.out (.cells #[.int .i64 a.f0,.int .i64 a.f1,.string a.f2,.slice A7 a.f3.length c7] 98)) 0).trans rfl;have hr1:=(blk_cell (blk_alloc BR6.out (.cells #[.int .i64 a.f0,.int .i64 a.f1,.string a.f2,.slice A7 a.f3.length c7] 98)) 1).trans rfl;have hr2:=(blk_cell (blk_alloc BR6.out (.cells #[.int .i64 a.f0,.int .i64 a.f1,.string a.f2,.slice A7 a.f3.length c7] 98)) 2).trans rfl;have hf0:=blk_frozen (blk_alloc BR6.out (.cells #[.int .i64 a.f0,.int .i64 a.f1,.string a.f2,.slice A7 a.f3.length c7] 98)) 0;have hf1:=blk_frozen (blk_alloc BR6.out (.cells #[.int .i64 a.f0,.int .i64 a.f1,.string a.f2,.slice A7 a.f3.length c7] 98)) 1;have hf2:=blk_frozen (blk_alloc BR6.out (.cells #[.int .i64 a.f0,.int .i64 a.f1,.string a.f2,.slice A7 a.f3.length c7] 98)) 2;simp only [List.getElem?_toArray,List.getElem?_cons_zero,List.getElem?_cons_succ] at hb2 hr0 hr1 hr2;have HW1:Aside0 (wrap64 ((q.f2.length:Int)+(j:Int))=(q.f2.length:Int)+(j:Int)∧wrap64 ((q.f2.length:Int)+(j:Int)+1)=(q.f2.length:Int)+(j:Int)+1):=⟨by unfold wrap64;have:=HLN.out.1;have:=HJ8.out;omega⟩
 go_wp2;rw [HW1.out.1,HW1.out.2];refine bodyPost_ret (results_cell_row rfl _ _ w.heap.size 128 _ (0,0) _ rfl (ck_res (blk_alloc BR6.out (.cells #[.int .i64 a.f0,.int .i64 a.f1,.string a.f2,.slice A7 a.f3.length c7] 98))) Tryz.underlying128 rfl (by kernel_rfl)) rfl ⟨rfl,ck_below (below_alloc HB6.out (.cells #[.int .i64 a.f0,.int .i64 a.f1,.string a.f2,.slice A7 a.f3.length c7] 98)) (Nat.le_refl _)⟩):p:=h
theorem u89e_1 {p:Prop} (h:p:=by
 have p5:decide (n<a.f1)=false:=decide_eq_false b2
 rw [if_neg (by intro z;rcases z.2 with z|z;exact b1 z;exact b2 z)] at hac;have HM2:=a_ hac;clear hac b1 b2;go_wp2;go_roundg (q.f4.length-(j+1))
 case measure=>omega
 case rel=>exact u89e_2):p:=h
set_option maxHeartbeats 16000000 in
set_option maxRecDepth 100000 in
theorem impl_CheckRules.calls (k:Nat) (A0:Option Addr) (c0:Nat) (l0:List (S39)) (r1:Int) (r2:Int) (r3:Int) (w:World) (hr0:Kd.C k39 w A0 l0.length l0) (hc0:l0.length≤c0) (h:impl_CheckRules.f k l0=some (r1,r2,r3)):
  Calls Tryz.prog 63 #[.slice A0 l0.length c0] w fun e w'=>e=.returned (.agg #[.int .i64 r1,.int .i64 r2,.int .i64 r3])∧Below w.heap.size w w':=by
 have hu:=Tryz.underlying39;have hu2:=Tryz.underlying98;have hu3:=Tryz.underlying128;have HR0:=a_ hr0;clear hr0 hc0;have HB0:=a_ (below_alloc (Below.refl w.heap.size w) (.cells #[.int .i64 0,.int .i64 0,.int .i64 0] 128));have BR0:=a_ (blk_new w (.cells #[.int .i64 0,.int .i64 0,.int .i64 0] 128));unfold impl_CheckRules.f at h
 by_cases c16:16<l0.length
 ·rw [if_pos c16] at h;cases h;have q16:decide ((16:Int)<(l0.length:Int))=true:=decide_eq_true (by omega)
  clear c16;go_enter Tryz.func63,Tryz.ntmps63;go_wp2;refine bodyPost_ret (results_cell_row rfl _ _ w.heap.size 128 #[.int .i64 1,.int .i64 0,.int .i64 0] (0,0) _ rfl (blk_new w _) Tryz.underlying128 rfl (by kernel_rfl)) rfl ⟨rfl,below_alloc (Below.refl _ _) _⟩
 rw [if_neg c16] at h;have q16:decide ((16:Int)<(l0.length:Int))=false:=decide_eq_false (by omega)
 have L16:Aside0 (l0.length≤16):=⟨by omega⟩
 clear c16;have HY:Aside0 (ck_rules k (l0.drop 0) 0 []=some (r1,r2,r3)):=⟨h⟩
 clear h;have HB:=a_ (below_alloc HB0.out (.map #[] 0));have BR:=a_ (blk_alloc BR0.out (.map #[] 0));have SN:Aside0 (SetS ((w.alloc (.cells #[.int .i64 0,.int .i64 0,.int .i64 0] 128)).alloc (.map #[] 0)) (w.heap.size+1) 0 []):=⟨by have:=SetS_made (w.alloc (.cells #[.int .i64 0,.int .i64 0,.int .i64 0] 128));rwa [show (w.alloc (.cells #[.int .i64 0,.int .i64 0,.int .i64 0] 128)).heap.size=w.heap.size+1 by simp] at this⟩
 clear BR0 HB0;have hmm:=@run_makeMap Tryz.prog;go_enter Tryz.func63,Tryz.ntmps63;go_wp2;go_loopg [18] l0.length (fun gg v18 wr=>∃(i nN:Nat) (M:List ByteArray),i≤l0.length∧l0.length-i≤gg∧v18=.int .i64 (i:Int)∧Aside0 (nN≤i)∧Aside0 (ck_rules k (l0.drop i) i M=some (r1,r2,r3))∧Aside0 (Below w.heap.size w wr)∧Aside0 (wr.heap[w.heap.size]?=some (.cells #[.int .i64 0,.int .i64 0,.int .i64 0] 128 (0,0)))∧Aside0 (SetS wr (w.heap.size+1) nN M))
 case atStart=>exact ⟨0,0,[],Nat.zero_le _,Nat.le_refl _,rfl,⟨Nat.le_refl _⟩,HY,HB,BR,SN⟩
 clear HY HB BR SN;obtain ⟨i,nN,M,hi,hgg,rfl,HN,HY,HB,BR,SN⟩:=hrel;obtain ⟨wa,hwa⟩:∃x,x=wr:=⟨_,rfl⟩;subst hwa;by_cases hlt:i<l0.length
 ·have hz:(i:Int)<(l0.length:Int):=by omega
  have hz0:(0:Int)≤(i:Int):=by omega
  have HI:Aside0 (i≤16):=⟨by have:=L16.out;omega⟩
  have HS1:Aside0 (w.heap.size+1<wa.heap.size):=⟨SN.out.lt⟩
  obtain ⟨ad,B2,d2,B3,d3,B4,d4,e0,hx0,hx1,hx2,hx3,hx4,hl2,hC2,hl3,hC3,hl4,hC4⟩:=at_T39 HR0.out (i:Int) hz0 hz;cases e0;replace hx0:=mx_ HB hx0;replace hx1:=mx_ HB hx1;replace hx2:=mx_ HB hx2;replace hx3:=mx_ HB hx3;replace hx4:=mx_ HB hx4;simp only [Int.toNat_natCast] at hx0 hx1 hx2 hx3 hx4;have HC2:=a_ hC2;have HC3:=a_ hC3;have HC4:=a_ hC4;have HL2:=a_ hl2;have HL3:=a_ hl3;have HL4:=a_ hl4;have hst:=ck_rules_cons k l0 i hlt M (r1,r2,r3) HY.out;clear hC2 hC3 hC4 hl2 hl3 hl4 HY;replace hst:(fun q:S39=>_) (rd_T39 l0 (i:Int))=some (r1,r2,r3):=hst
  generalize rd_T39 l0 (i:Int)=q at *;simp only [] at hst;by_cases hsz:q.f0.size≤maxLen
  rotate_left
  ·rw [if_neg hsz] at hst;cases hst
  rw [if_pos hsz] at hst;have HSZ:=a_ hsz;clear hsz;obtain ⟨s,hs,hst⟩:=Option.bind_eq_some_iff.1 hst;have HSF:=a_ hs;clear hs;go_wp2_with fail;refine (impl_Rule_shapeFault.calls q.f0 q.f1 B2 d2 q.f2 B3 d3 q.f3 B4 d4 q.f4 s _ (Kd.C_below HC2.out (below_alloc HB.out _)) HL2.out (Kd.C_below HC3.out (below_alloc HB.out _)) HL3.out (Kd.C_below HC4.out (below_alloc HB.out _)) HL4.out HSF.out).mono ?_;rintro e w1 ⟨rfl,hd⟩;have HB1:=a_ (below_step (below_alloc HB.out (.cells #[.string q.f0,.int .i64 q.f1,.slice B2 q.f2.length d2,.slice B3 q.f3.length d3,.slice B4 q.f4.length d4] 39)) hd);have BR1:=a_ (blk_below (blk_alloc BR.out (.cells #[.string q.f0,.int .i64 q.f1,.slice B2 q.f2.length d2,.slice B3 q.f3.length d3,.slice B4 q.f4.length d4] 39)) hd);have BX1:=a_ (blk_below (blk_new wa (.cells #[.string q.f0,.int .i64 q.f1,.slice B2 q.f2.length d2,.slice B3 q.f3.length d3,.slice B4 q.f4.length d4] 39)) hd);have SN1:=a_ ((SetS.alloc SN.out (.cells #[.string q.f0,.int .i64 q.f1,.slice B2 q.f2.length d2,.slice B3 q.f3.length d3,.slice B4 q.f4.length d4] 39)).kept (grown_of_below hd none) (by simp));clear hd hx0 hx1 hx2 hx3 hx4;by_cases s0:0≤s
  ·rw [if_pos s0] at hst;have q0:decide (0≤s)=true:=decide_eq_true s0
   clear s0;cases hst;have hr0:=(blk_cell BR1.out 0).trans rfl;have hr1:=(blk_cell BR1.out 1).trans rfl;have hr2:=(blk_cell BR1.out 2).trans rfl;have hf0:=blk_frozen BR1.out 0;have hf1:=blk_frozen BR1.out 1;have hf2:=blk_frozen BR1.out 2;simp only [List.getElem?_toArray,List.getElem?_cons_zero,List.getElem?_cons_succ] at hr0 hr1 hr2;go_wp2;refine bodyPost_ret (results_cell_row rfl _ _ w.heap.size 128 _ (0,0) _ rfl (ck_res BR1.out) Tryz.underlying128 rfl (by kernel_rfl)) rfl ⟨rfl,ck_below HB1.out (Nat.le_refl _)⟩
  rw [if_neg s0] at hst;have q0:decide (0≤s)=false:=decide_eq_false s0
  clear s0;have hxa0:=(blk_cell BX1.out 0).trans rfl;have hxa1:=(blk_cell BX1.out 1).trans rfl;have hxa2:=(blk_cell BX1.out 2).trans rfl;have hxa3:=(blk_cell BX1.out 3).trans rfl;have hxa4:=(blk_cell BX1.out 4).trans rfl;simp only [List.getElem?_toArray,List.getElem?_cons_zero,List.getElem?_cons_succ] at hxa0 hxa1 hxa2 hxa3 hxa4;go_wp2_with fail;refine (impl_nameSet_has.calls (w.heap.size+1) nN M q.f0 _ SN1.out HSZ.out).mono ?_;rintro e w2 ⟨rfl,hd⟩;have HB2:=a_ (below_step HB1.out hd);have BR2:=a_ (blk_below BR1.out hd);have BX2:=a_ (blk_below BX1.out hd);have SN2:=a_ (SN1.out.kept (grown_of_below hd none) (by simp));clear hd hxa0 hxa1 hxa2 hxa3 hxa4 HB1 BR1 BX1 SN1 q0;cases hm:memS q.f0 M with
  | true=>
   rw [if_pos hm] at hst;cases hst;have hr0:=(blk_cell BR2.out 0).trans rfl;have hr1:=(blk_cell BR2.out 1).trans rfl;have hr2:=(blk_cell BR2.out 2).trans rfl;have hf0:=blk_frozen BR2.out 0;have hf1:=blk_frozen BR2.out 1;have hf2:=blk_frozen BR2.out 2;simp only [List.getElem?_toArray,List.getElem?_cons_zero,List.getElem?_cons_succ] at hr0 hr1 hr2;go_wp2;refine bodyPost_ret (results_cell_row rfl _ _ w.heap.size 128 _ (0,0) _ rfl (ck_res BR2.out) Tryz.underlying128 rfl (by kernel_rfl)) rfl ⟨rfl,ck_below HB2.out (Nat.le_refl _)⟩
  | false=>
  rw [if_neg (by rw [hm];decide)] at hst;obtain ⟨n,hn,hst⟩:=Option.bind_eq_some_iff.1 hst;have HPN:=a_ hn;clear hn;have hxb0:=(blk_cell BX2.out 0).trans rfl;have hxb1:=(blk_cell BX2.out 1).trans rfl;have hxb2:=(blk_cell BX2.out 2).trans rfl;have hxb3:=(blk_cell BX2.out 3).trans rfl;have hxb4:=(blk_cell BX2.out 4).trans rfl;simp only [List.getElem?_toArray,List.getElem?_cons_zero,List.getElem?_cons_succ] at hxb0 hxb1 hxb2 hxb3 hxb4;go_wp2_with (at_mapUpdate;refine wpList_addS rfl _ _ _ 171 172 Tryz.underlying171 rfl (w.heap.size+1) nN M SN2.out (lt_maxLen (by have:=HN.out;have:=HI.out;omega)) rfl q.f0 HSZ.out rfl rfl ?_;intro w3 hs3 hg3;have HB3:Aside0 (Below w.heap.size w w3):=⟨HB2.out.grown hg3 HB2.out.size (by intro z e;injection e with e;omega)⟩;have BR3:=a_ (blk_grown BR2.out hg3 (by intro e;injection e with e;omega));have BX3:=a_ (blk_grown BX2.out hg3 (by intro e;injection e with e;have:=HS1.out;omega));have SN3:=a_ hs3;have hxc0:=(blk_cell BX3.out 0).trans rfl;have hxc1:=(blk_cell BX3.out 1).trans rfl;have hxc2:=(blk_cell BX3.out 2).trans rfl;have hxc3:=(blk_cell BX3.out 3).trans rfl;have hxc4:=(blk_cell BX3.out 4).trans rfl;simp only [List.getElem?_toArray,List.getElem?_cons_zero,List.getElem?_cons_succ] at hxc0 hxc1 hxc2 hxc3 hxc4;clear hs3 hg3);refine (impl_Rule_positives.calls k q.f0 q.f1 B2 d2 q.f2 B3 d3 q.f3 B4 d4 q.f4 n _ (Kd.C_below HC2.out HB3.out) HL2.out (Kd.C_below HC3.out HB3.out) HL3.out (Kd.C_below HC4.out HB3.out) HL4.out HPN.out).mono ?_;rintro e w4 ⟨rfl,hd⟩;have HB4:=a_ (below_step HB3.out hd);have BR4:=a_ (blk_below BR3.out hd);have BX4:=a_ (blk_below BX3.out hd);have SN4:=a_ (SN3.out.kept (grown_of_below hd none) (by simp));clear hd hxb0 hxb1 hxb2 hxb3 hxb4 hxc0 hxc1 hxc2 hxc3 hxc4 HB2 BR2 BX2 SN2 HB3 BR3 BX3 SN3 hm;by_cases n1:n<1
  ·rw [if_pos (Or.inl n1)] at hst;cases hst;have q1:decide (n<1)=true:=decide_eq_true n1
   clear n1;have hr0:=(blk_cell BR4.out 0).trans rfl;have hr1:=(blk_cell BR4.out 1).trans rfl;have hr2:=(blk_cell BR4.out 2).trans rfl;have hf0:=blk_frozen BR4.out 0;have hf1:=blk_frozen BR4.out 1;have hf2:=blk_frozen BR4.out 2;simp only [List.getElem?_toArray,List.getElem?_cons_zero,List.getElem?_cons_succ] at hr0 hr1 hr2;go_wp2;refine bodyPost_ret (results_cell_row rfl _ _ w.heap.size 128 _ (0,0) _ rfl (ck_res BR4.out) Tryz.underlying128 rfl (by kernel_rfl)) rfl ⟨rfl,ck_below HB4.out (Nat.le_refl _)⟩
  have q1:decide (n<1)=false:=decide_eq_false n1
  by_cases n3:3<n
  ·rw [if_pos (Or.inr n3)] at hst;cases hst;have q3:decide (3<n)=true:=decide_eq_true n3
   clear n1 n3;have hr0:=(blk_cell BR4.out 0).trans rfl;have hr1:=(blk_cell BR4.out 1).trans rfl;have hr2:=(blk_cell BR4.out 2).trans rfl;have hf0:=blk_frozen BR4.out 0;have hf1:=blk_frozen BR4.out 1;have hf2:=blk_frozen BR4.out 2;simp only [List.getElem?_toArray,List.getElem?_cons_zero,List.getElem?_cons_succ] at hr0 hr1 hr2;go_wp2;refine bodyPost_ret (results_cell_row rfl _ _ w.heap.size 128 _ (0,0) _ rfl (ck_res BR4.out) Tryz.underlying128 rfl (by kernel_rfl)) rfl ⟨rfl,ck_below HB4.out (Nat.le_refl _)⟩
  rw [if_neg (by omega)] at hst;have q3:decide (3<n)=false:=decide_eq_false n3
  clear n1 n3;obtain ⟨c,hc,hst⟩:=Option.bind_eq_some_iff.1 hst;have HCF:=a_ hc;clear hc;have hxd0:=(blk_cell BX4.out 0).trans rfl;have hxd1:=(blk_cell BX4.out 1).trans rfl;have hxd2:=(blk_cell BX4.out 2).trans rfl;have hxd3:=(blk_cell BX4.out 3).trans rfl;have hxd4:=(blk_cell BX4.out 4).trans rfl;simp only [List.getElem?_toArray,List.getElem?_cons_zero,List.getElem?_cons_succ] at hxd0 hxd1 hxd2 hxd3 hxd4;go_wp2_with fail;refine (impl_Rule_scopeFault.calls q.f0 q.f1 B2 d2 q.f2 B3 d3 q.f3 B4 d4 q.f4 c _ (Kd.C_below HC2.out HB4.out) HL2.out (Kd.C_below HC3.out HB4.out) HL3.out (Kd.C_below HC4.out HB4.out) HL4.out HCF.out).mono ?_;rintro e w5 ⟨rfl,hd⟩;have HB5:=a_ (below_step HB4.out hd);have BR5:=a_ (blk_below BR4.out hd);have BX5:=a_ (blk_below BX4.out hd);have SN5:=a_ (SN4.out.kept (grown_of_below hd none) (by simp));clear hd hxd0 hxd1 hxd2 hxd3 hxd4 HB4 BR4 BX4 SN4 q1 q3;by_cases c1:0≤c
  ·rw [if_pos c1] at hst;have q0:decide (0≤c)=true:=ct_ c1
   clear c1;cases hst;have hr0:=(blk_cell BR5.out 0).trans rfl;have hr1:=(blk_cell BR5.out 1).trans rfl;have hr2:=(blk_cell BR5.out 2).trans rfl;have hf0:=blk_frozen BR5.out 0;have hf1:=blk_frozen BR5.out 1;have hf2:=blk_frozen BR5.out 2;simp only [List.getElem?_toArray,List.getElem?_cons_zero,List.getElem?_cons_succ] at hr0 hr1 hr2;go_wp2;refine bodyPost_ret (results_cell_row rfl _ _ w.heap.size 128 _ (0,0) _ rfl (ck_res BR5.out) Tryz.underlying128 rfl (by kernel_rfl)) rfl ⟨rfl,ck_below HB5.out (Nat.le_refl _)⟩
  rw [if_neg c1] at hst;have q0:decide (0≤c)=false:=cf_ c1
  clear c1;by_cases hln:q.f2.length≤6∧q.f4.length≤8
  rotate_left
  ·rw [if_neg hln] at hst;cases hst
  rw [if_pos hln] at hst;have HLN:=a_ hln;clear hln;obtain ⟨m,hm⟩:∃m,ck_acts n q.f2.length q.f4 0=m:=⟨_,rfl⟩;rw [hm] at hst;have HM:Aside0 (ck_acts n q.f2.length (q.f4.drop 0) 0=m):=⟨hm⟩
  have HST:=a_ hst;clear hm hst;have hxe0:=(blk_cell BX5.out 0).trans rfl;have hxe1:=(blk_cell BX5.out 1).trans rfl;have hxe2:=(blk_cell BX5.out 2).trans rfl;have hxe3:=(blk_cell BX5.out 3).trans rfl;have hxe4:=(blk_cell BX5.out 4).trans rfl;simp only [List.getElem?_toArray,List.getElem?_cons_zero,List.getElem?_cons_succ] at hxe0 hxe1 hxe2 hxe3 hxe4;go_wp2;go_loopg [60] q.f4.length (fun gg v60 wr=>∃j:Nat,j≤q.f4.length∧q.f4.length-j≤gg∧v60=.int .i64 (j:Int)∧Aside0 (ck_acts n q.f2.length (q.f4.drop j) j=m)∧Aside0 (Below w.heap.size w wr)∧Aside0 (wr.heap[w.heap.size]?=some (.cells #[.int .i64 0,.int .i64 0,.int .i64 0] 128 (0,0)))∧Aside0 (wr.heap[wa.heap.size]?=some (.cells #[.string q.f0,.int .i64 q.f1,.slice B2 q.f2.length d2,.slice B3 q.f3.length d3,.slice B4 q.f4.length d4] 39 (0,0)))∧Aside0 (SetS wr (w.heap.size+1) (nN+1) (q.f0::M)))
  case atStart=>exact ⟨0,Nat.zero_le _,Nat.le_refl _,rfl,HM,HB5,BR5,BX5,SN5⟩
  clear HM HB5 BR5 BX5 SN5 hxe0 hxe1 hxe2 hxe3 hxe4 q0;obtain ⟨j,hj,hggj,rfl,HM,HB6,BR6,BX6,SN6⟩:=hrel;by_cases hltj:j<q.f4.length
  ·have hzj:(j:Int)<(q.f4.length:Int):=by omega
   have hzj0:(0:Int)≤(j:Int):=by omega
   have HJ8:Aside0 (j≤8):=⟨by have:=HLN.out.2;omega⟩
   obtain ⟨ad7,A7,c7,e0,hy0,hy1,hy2,hy3,hl7,hC7⟩:=at_T98 HC4.out (j:Int) hzj0 hzj;cases e0;replace hy0:=(HB6.out.cell (World.block_lt_of_cell? w _ hy0)).trans hy0;replace hy1:=(HB6.out.cell (World.block_lt_of_cell? w _ hy1)).trans hy1;replace hy2:=(HB6.out.cell (World.block_lt_of_cell? w _ hy2)).trans hy2;replace hy3:=(HB6.out.cell (World.block_lt_of_cell? w _ hy3)).trans hy3;simp only [Int.toNat_natCast] at hy0 hy1 hy2 hy3;have hac:=ck_acts_cons n q.f2.length q.f4 j hltj m HM.out;clear hl7 hC7 HM;generalize rd_T98 q.f4 (j:Int)=a at *;by_cases k2:a.f0=2
   ·have p2:(a.f0==2)=true:=by simpa using k2
    have K2:=a_ k2;clear k2;by_cases b1:a.f1<1
    ·have p4:decide (a.f1<1)=true:=decide_eq_true b1
     rw [if_pos ⟨(Or.inl K2.out),Or.inl b1⟩] at hac;exact u89e_0
    have p4:decide (a.f1<1)=false:=decide_eq_false b1
    by_cases b2:n<a.f1
    ·have p5:decide (n<a.f1)=true:=decide_eq_true b2
     rw [if_pos ⟨(Or.inl K2.out),Or.inr b2⟩] at hac;exact u89e_0
    exact u89e_1
   ·have p2:(a.f0==2)=false:=by simpa using k2
    by_cases k3:a.f0=3
    ·have p3:(a.f0==3)=true:=by simpa using k3
     have K3:=a_ k3;clear k3 k2;by_cases b1:a.f1<1
     ·have p4:decide (a.f1<1)=true:=decide_eq_true b1
      rw [if_pos ⟨(Or.inr K3.out),Or.inl b1⟩] at hac;exact u89e_0
     have p4:decide (a.f1<1)=false:=decide_eq_false b1
     by_cases b2:n<a.f1
     ·have p5:decide (n<a.f1)=true:=decide_eq_true b2
      rw [if_pos ⟨(Or.inr K3.out),Or.inr b2⟩] at hac;exact u89e_0
     exact u89e_1
    ·have p3:(a.f0==3)=false:=by simpa using k3
     rw [if_neg (by intro z;rcases z.1 with z|z;exact k2 z;exact k3 z)] at hac;have HM2:=a_ hac;clear hac k2 k3;go_wp2;go_roundg (q.f4.length-(j+1))
     case measure=>omega
     case rel=>exact u89e_2
  ·have hjl:j=q.f4.length:=by omega
   have e0:=HM.out;rw [hjl,List.drop_length] at e0;unfold ck_acts at e0
   have h2:=HST.out;rw [←e0,if_pos rfl] at h2;have HY2:=a_ h2;clear e0 h2 hjl;go_wp2;go_roundg (l0.length-(i+1))
   case measure=>omega
   case rel=>exact ⟨i+1,nN+1,q.f0::M,by omega,by omega,by rw [show wrap64 ((i:Int)+1)=((i+1:Nat):Int) by unfold wrap64;have:=HI.out;omega],⟨by have:=HN.out;omega⟩,HY2,HB6,BR6,SN6⟩
 ·have hil:i=l0.length:=by omega
  subst hil;have e0:=HY.out;rw [List.drop_length] at e0;unfold ck_rules at e0
  cases e0;clear HY;have hr0:=(blk_cell BR.out 0).trans rfl;have hr1:=(blk_cell BR.out 1).trans rfl;have hr2:=(blk_cell BR.out 2).trans rfl;have hf0:=blk_frozen BR.out 0;have hf1:=blk_frozen BR.out 1;have hf2:=blk_frozen BR.out 2;simp only [List.getElem?_toArray,List.getElem?_cons_zero,List.getElem?_cons_succ] at hr0 hr1 hr2;go_wp2;refine bodyPost_ret (results_cell_row rfl _ _ w.heap.size 128 _ (0,0) _ rfl (ck_res BR.out) Tryz.underlying128 rfl (by kernel_rfl)) rfl ⟨rfl,ck_below HB.out (Nat.le_refl _)⟩
end Go.Proofs.YtahambloheoebaaGreatDoor.P
namespace Go.Proofs.YtahambloheoebaaGreatDoor.P
open Go.Proofs.YtahambloheoebaaGreatDoorX
open Go.RowKit Go.Proofs.YtahambloheoebaaGreatDoorW.PrintWords Go.Proofs.YtahambloheoebaaGreatDoorW.PrintLast Go.Proofs.YtahambloheoebaaGreatDoorW.PrintMore
attribute [local go_sem] max2_int min2_int max_two min_two max_three min_three max_four min_four
set_option linter.unusedVariables false
set_option linter.unusedSimpArgs false
open Go.Proofs.YtahambloheoebaaGreatDoorX
def impl_checked.f (k:Nat) (l0:List (S39)):Option (Bool):=(impl_CheckRules.f k l0).bind fun y=>(some (y.1==0))
theorem impl_checked.mono:∀a0 k,LeO (impl_checked.f k a0) (impl_checked.f (k+1) a0):=by
 intro a0 k;unfold impl_checked.f
 exact LeO.bind (impl_CheckRules.mono _ _) (fun _=>LeO.refl _)
set_option maxHeartbeats 8000000 in
set_option maxRecDepth 100000 in
theorem impl_checked.calls (k:Nat) (A0:Option Addr) (c0:Nat) (l0:List (S39)) (r:Bool) (w:World) (hr0:Kd.C k39 w A0 l0.length l0) (hc0:l0.length≤c0) (h:impl_checked.f k l0=some r):
  Calls Tryz.prog 26 #[.slice A0 l0.length c0] w fun e w'=>e=.returned (.bool r)∧Below w.heap.size w w':=by
 unfold impl_checked.f at h
 obtain ⟨⟨t1,t2,t3⟩,h1,h⟩:=Option.bind_eq_some_iff.1 h;obtain rfl:=Option.some.inj h;have H1:=a_ h1;have HR:=a_ hr0;have HC:=a_ hc0;clear h h1 hr0 hc0;have hf:∀W:World,Sem.run Tryz.prog (Instr.field 128 (.agg #[.int .i64 t1,.int .i64 t2,.int .i64 t3]) 0) W=.ok (.int .i64 t1) W:=fun W=>by kernel_rfl
 go_enter Tryz.func26,Tryz.ntmps26;go_wp2_with fail;refine (impl_CheckRules.calls k _ _ l0 t1 t2 t3 _ HR.out HC.out H1.out).mono ?_;rintro e w1 ⟨rfl,hb⟩;have HB:=a_ hb;clear hb;go_wp2;go_ret;exact ⟨rfl,HB.out⟩
end Go.Proofs.YtahambloheoebaaGreatDoor.P
namespace Go.Proofs.YtahambloheoebaaGreatDoor.P
open Go.Proofs.YtahambloheoebaaGreatDoorX
open Go.RowKit Go.Proofs.YtahambloheoebaaGreatDoorW.PrintWords Go.Proofs.YtahambloheoebaaGreatDoorW.PrintLast Go.Proofs.YtahambloheoebaaGreatDoorW.PrintMore
attribute [local go_sem] max2_int min2_int max_two min_two max_three min_three max_four min_four
set_option linter.unusedVariables false
set_option linter.unusedSimpArgs false
open Go.Proofs.YtahambloheoebaaGreatDoorX
instance (n:Int):Decidable (I64 n):=by unfold I64;infer_instance
def valT (v:S80):ByteArray:=if v.f0=1 then v.f2 else itoaB v.f1
def impl_Value_String.f (a0_0 a0_1:Int) (a0_2:ByteArray):Option ByteArray:=if I64 a0_1 then some (valT ⟨a0_0,a0_1,a0_2⟩) else none
set_option maxHeartbeats 4000000 in
set_option maxRecDepth 100000 in
theorem impl_Value_String.walk (v:S80) (w:World) (ht:TB w) (hv:I64 v.f1):
  Calls Tryz.prog 66 #[.agg #[.int .i64 v.f0,.int .i64 v.f1,.string v.f2]] w fun e w'=>e=.returned (.string (valT v))∧Below w.heap.size w w':=by
 obtain ⟨k,n,s⟩:=v;obtain ⟨h0,h1⟩:=hv;have HT:=a_ ht;have H0:=a_ h0;have H1:=a_ h1;have hu:=Tryz.underlying80;clear ht h0 h1;by_cases c:k=1
 ·subst c;go_enter Tryz.func66,Tryz.ntmps66;go_wp2;go_ret;exact ⟨by unfold valT;rw [if_pos rfl];rfl,by repeat (first|exact Below.refl _ _|apply below_alloc)⟩
 ·have c':(k==1)=false:=beq_eq_false_iff_ne.mpr c
  go_enter Tryz.func66,Tryz.ntmps66;go_wp2_with (go_at_call 43;refine (Go.Proofs.Tryz.strconv_FormatInt_10 n H0.out H1.out _ (HT.out.below (by repeat (first|exact Below.refl _ _|apply below_alloc)))).mono ?_;rintro e w1 ⟨rfl,kk,os,rfl⟩);go_ret;refine ⟨by unfold valT;rw [if_neg c];rfl,?_⟩;refine Below.trans (by repeat (first|exact Below.refl _ _|apply below_alloc)) (Go.Lib.below_grow _ _ ?_ _ _);simp
theorem impl_Value_String.calls (a0_0 a0_1:Int) (a0_2:ByteArray) (r:ByteArray) (w:World) (h:impl_Value_String.f a0_0 a0_1 a0_2=some r) (htb_:Go.Proofs.YtahambloheoebaaGreatDoorX.TB w:=by first|assumption|(with_reducible refine Go.Proofs.YtahambloheoebaaGreatDoorX.TB.below (Aside0.out HTB) ?_;repeat (first|(with_reducible first|exact HB.out|apply below_alloc|apply pw_below_drewN|apply below_drew1)|exact HB.out|refine below_set ?_ (Aside0.out (by assumption))))|(with_reducible refine Go.Proofs.YtahambloheoebaaGreatDoorX.TBS.TB (Aside0.out HTB) ?_;repeat (first|(with_reducible first|exact HB.out|apply below_alloc|apply pw_below_drewN|apply below_drew1)|exact HB.out|refine below_set ?_ (Aside0.out (by assumption))))):
  Calls Tryz.prog 66 #[.agg #[.int .i64 a0_0,.int .i64 a0_1,.string a0_2]] w fun e w'=>e=.returned (.string r)∧Below w.heap.size w w':=by
 unfold impl_Value_String.f at h
 split at h
 case isFalse=>cases h
 case isTrue hv=>
 have h:=Option.some.inj h;subst h;exact impl_Value_String.walk ⟨a0_0,a0_1,a0_2⟩ w htb_ hv
theorem valT_size (v:S80) (h:I64 v.f1):(valT v).size≤v.f2.size+21:=by
 unfold valT
 split
 ·omega
 ·have:=itoaB_size _ h;omega
end Go.Proofs.YtahambloheoebaaGreatDoor.P
namespace Go.Proofs.YtahambloheoebaaGreatDoor.P
open Go.Proofs.YtahambloheoebaaGreatDoorX
open Go.RowKit Go.Proofs.YtahambloheoebaaGreatDoorW.PrintWords Go.Proofs.YtahambloheoebaaGreatDoorW.PrintLast Go.Proofs.YtahambloheoebaaGreatDoorW.PrintMore
attribute [local go_sem] max2_int min2_int max_two min_two max_three min_three max_four min_four
set_option linter.unusedVariables false
set_option linter.unusedSimpArgs false
open Go.Proofs.YtahambloheoebaaGreatDoorX
def boundT (t:S86):ByteArray:=if t.f2.toList=[] then valT t.f3 else (⟨#[63]⟩:ByteArray)++t.f2
def termT (t:S86):ByteArray:=
 if t.f0=1 then valT t.f3 else if t.f0=2 then (⟨#[63]⟩:ByteArray)++t.f2
 else if t.f0=3 then (((⟨#[40]⟩:ByteArray)++tstT t.f1)++(⟨#[32]⟩:ByteArray))++boundT t++(⟨#[41]⟩:ByteArray) else ⟨#[95]⟩
def impl_Term_String.f (a0_0 a0_1:Int) (a0_2:ByteArray) (a0_3 a0_4:Int) (a0_5:ByteArray):Option ByteArray:=
 if I64 a0_4∧(a0_0=3→1≤a0_1∧a0_1≤6)∧a0_2.size≤4611686018427387904∧a0_5.size≤4611686018427387904 then some (termT ⟨a0_0,a0_1,a0_2,⟨a0_3,a0_4,a0_5⟩⟩) else none
theorem u9ec_0 {p:Prop} (h:p:=by
 go_enter Tryz.func88,Tryz.ntmps88;go_wp2_with (go_at_call 66;refine (impl_Value_String.walk v _ (HT.out.below (by repeat (first|exact HB.out|apply below_alloc))) HV.out).mono ?_;rintro e_ w1 ⟨rfl,hd⟩;have hts:TS w1:=(HS.out.below (by repeat (first|exact HB.out|apply below_alloc))).below hd;(obtain ⟨A,c,q1,q2⟩:=hts);(obtain ⟨ad,rfl,q3⟩:=Kd.at_string q2 op z0 z7);have q4:w1.cell? (ad.add op.toNat)=some (.string (tstT op)):=q3;clear q3;have BN:=a_ (blk_below (blk_new w _) hd);have hz0:w1.cell? ⟨w.heap.size,0,none⟩=some (.int .i64 3):=(blk_cell BN.out 0).trans rfl;have hz1:w1.cell? ⟨w.heap.size,1,none⟩=some (.int .i64 op):=(blk_cell BN.out 1).trans rfl;have hz2:w1.cell? ⟨w.heap.size,2,none⟩=some (.string s):=(blk_cell BN.out 2).trans rfl;replace HB:=a_ (below_step (by repeat (first|exact HB.out|apply below_alloc)) hd);clear hd q2);go_ret;exact ⟨rfl,HB.out⟩):p:=h
set_option maxHeartbeats 8000000 in
set_option maxRecDepth 100000 in
theorem impl_Term_String.walk (t:S86) (w:World) (ht:TB w) (hs:TS w) (hv:I64 t.f3.f1) (hop:t.f0=3→1≤t.f1∧t.f1≤6) (z1:t.f2.size≤4611686018427387904) (z2:t.f3.f2.size≤4611686018427387904):
  Calls Tryz.prog 88 #[.agg #[.int .i64 t.f0,.int .i64 t.f1,.string t.f2,.int .i64 t.f3.f0,.int .i64 t.f3.f1,.string t.f3.f2]] w fun e w'=>e=.returned (.string (termT t))∧Below w.heap.size w w':=by
 have sv:=valT_size t.f3 hv;obtain ⟨k,op,s,v⟩:=t;have HT:=a_ ht;have HS:=a_ hs;have HV:=a_ hv;have hu:=Tryz.underlying86;have hu1:=Tryz.underlying80;have HB:=a_ (Below.refl w.heap.size w);clear ht hs hv;dsimp only at *
 by_cases c1:k=1
 ·subst c1;rw [show termT ⟨1,op,s,v⟩=valT v from rfl];go_enter Tryz.func88,Tryz.ntmps88;go_wp2_with (go_at_call 66;refine (impl_Value_String.walk v _ (HT.out.below (by repeat (first|exact HB.out|apply below_alloc))) HV.out).mono ?_;rintro e w1 ⟨rfl,hd⟩);go_ret;exact ⟨rfl,below_step (by repeat (first|exact HB.out|apply below_alloc)) hd⟩
 have d1:(k==1)=false:=beq_eq_false_iff_ne.mpr c1
 by_cases c2:k=2
 ·subst c2;rw [show termT ⟨2,op,s,v⟩=(⟨#[63]⟩:ByteArray)++s from rfl];obtain ⟨y1,y2⟩:=bt_le (show 1+s.size≤9223372036854775807 by omega);have y3:(⟨#[63]⟩:ByteArray).size+s.size≤9223372036854775807:=by show 1+s.size≤_;omega
  have y4:=y3;go_enter Tryz.func88,Tryz.ntmps88;go_wp2;go_ret;exact ⟨rfl,by repeat (first|exact HB.out|apply below_alloc)⟩
 have d2:(k==2)=false:=beq_eq_false_iff_ne.mpr c2
 by_cases c3:k=3
 ·subst c3;obtain ⟨g0,g1⟩:=hop rfl;have st:=tstT_size op g0 g1;rw [show termT ⟨3,op,s,v⟩=(((⟨#[40]⟩:ByteArray)++tstT op)++(⟨#[32]⟩:ByteArray))++boundT ⟨3,op,s,v⟩++(⟨#[41]⟩:ByteArray) from rfl];have m1:((⟨#[40]⟩:ByteArray)++tstT op).size=1+(tstT op).size:=ByteArray.size_append
  have m2:(((⟨#[40]⟩:ByteArray)++tstT op)++(⟨#[32]⟩:ByteArray)).size=1+(tstT op).size+1:=by rw [ByteArray.size_append,m1];rfl
  obtain ⟨y1,y2⟩:=bt_le (show 1+(tstT op).size≤9223372036854775807 by omega);obtain ⟨y3,y4⟩:=bt_le (show ((⟨#[40]⟩:ByteArray)++tstT op).size+1≤9223372036854775807 by omega);have z0:(0:Int)≤op:=by omega
  have z7:op<7:=by omega
  by_cases e:s.toList=[]
  ·have e':s.toList.isEmpty=true:=by rw [e];rfl
   rw [show boundT ⟨3,op,s,v⟩=valT v by unfold boundT;rw [if_pos e]];have m3:((((⟨#[40]⟩:ByteArray)++tstT op)++(⟨#[32]⟩:ByteArray))++valT v).size=1+(tstT op).size+1+(valT v).size:=by rw [ByteArray.size_append,m2]
   obtain ⟨y5,y6⟩:=bt_le (show (((⟨#[40]⟩:ByteArray)++tstT op)++(⟨#[32]⟩:ByteArray)).size+(valT v).size≤9223372036854775807 by omega);obtain ⟨y7,y8⟩:=bt_le (show ((((⟨#[40]⟩:ByteArray)++tstT op)++(⟨#[32]⟩:ByteArray))++valT v).size+1≤9223372036854775807 by omega);exact u9ec_0
  ·have e':s.toList.isEmpty=false:=by simpa using e
   rw [show boundT ⟨3,op,s,v⟩=(⟨#[63]⟩:ByteArray)++s by unfold boundT;rw [if_neg e]];have m0:((⟨#[63]⟩:ByteArray)++s).size=1+s.size:=ByteArray.size_append
   have m3:((((⟨#[40]⟩:ByteArray)++tstT op)++(⟨#[32]⟩:ByteArray))++((⟨#[63]⟩:ByteArray)++s)).size=1+(tstT op).size+1+(1+s.size):=by rw [ByteArray.size_append,m2,m0]
   obtain ⟨y5,y6⟩:=bt_le (show (((⟨#[40]⟩:ByteArray)++tstT op)++(⟨#[32]⟩:ByteArray)).size+((⟨#[63]⟩:ByteArray)++s).size≤9223372036854775807 by omega);obtain ⟨y7,y8⟩:=bt_le (show ((((⟨#[40]⟩:ByteArray)++tstT op)++(⟨#[32]⟩:ByteArray))++((⟨#[63]⟩:ByteArray)++s)).size+1≤9223372036854775807 by omega);obtain ⟨y9,y10⟩:=bt_le (show 1+s.size≤9223372036854775807 by omega);exact u9ec_0
 have d3:(k==3)=false:=beq_eq_false_iff_ne.mpr c3
 rw [show termT ⟨k,op,s,v⟩=⟨#[95]⟩ by unfold termT;rw [if_neg c1,if_neg c2,if_neg c3]];go_enter Tryz.func88,Tryz.ntmps88;go_wp2;go_ret;exact ⟨rfl,by repeat (first|exact HB.out|apply below_alloc)⟩
theorem impl_Term_String.calls (a0_0 a0_1:Int) (a0_2:ByteArray) (a0_3 a0_4:Int) (a0_5:ByteArray) (r:ByteArray) (w:World) (h:impl_Term_String.f a0_0 a0_1 a0_2 a0_3 a0_4 a0_5=some r) (htb_:Go.Proofs.YtahambloheoebaaGreatDoorX.TBS w:=by first|assumption|(with_reducible refine Go.Proofs.YtahambloheoebaaGreatDoorX.TBS.below (Aside0.out HTB) ?_;repeat (first|(with_reducible first|exact HB.out|apply below_alloc|apply pw_below_drewN|apply below_drew1)|exact HB.out|refine below_set ?_ (Aside0.out (by assumption))))):
  Calls Tryz.prog 88 #[.agg #[.int .i64 a0_0,.int .i64 a0_1,.string a0_2,.int .i64 a0_3,.int .i64 a0_4,.string a0_5]] w fun e w'=>e=.returned (.string r)∧Below w.heap.size w w':=by
 unfold impl_Term_String.f at h
 split at h
 case isFalse=>cases h
 case isTrue hv=>
 obtain ⟨h1,h2,h3,h4⟩:=hv;have h:=Option.some.inj h;subst h;exact impl_Term_String.walk ⟨a0_0,a0_1,a0_2,⟨a0_3,a0_4,a0_5⟩⟩ w htb_.1 htb_.2 h1 h2 h3 h4
end Go.Proofs.YtahambloheoebaaGreatDoor.P
namespace Go.Proofs.YtahambloheoebaaGreatDoor.P
open Go.Proofs.YtahambloheoebaaGreatDoorX
open Go.RowKit Go.Proofs.YtahambloheoebaaGreatDoorW.PrintWords Go.Proofs.YtahambloheoebaaGreatDoorW.PrintLast Go.Proofs.YtahambloheoebaaGreatDoorW.PrintMore
attribute [local go_sem] max2_int min2_int max_two min_two max_three min_three max_four min_four
set_option linter.unusedVariables false
set_option linter.unusedSimpArgs false
open Go.Proofs.YtahambloheoebaaGreatDoorX
def joinT (xs:List ByteArray) (sep:ByteArray):ByteArray:=⟨(Lib.join (xs.map (·.data.toList)) sep.data.toList).toArray⟩
def strings_Join.f (l0:List ByteArray) (a1:ByteArray):Option ByteArray:=if 0<l0.length∧l0.length≤140737488355328∧(joinT l0 a1).size≤140737488355328 then some (joinT l0 a1) else none
theorem strings_Join.calls (A0:Option Addr) (c0:Nat) (l0:List ByteArray) (a1:ByteArray) (r:ByteArray) (w:World) (hr0:Kd.C Kd.string w A0 l0.length l0) (hc0:l0.length≤c0) (h:strings_Join.f l0 a1=some r):
  Calls Tryz.prog 89 #[.slice A0 l0.length c0,.string a1] w fun e w'=>e=.returned (.string r)∧Below w.heap.size w w':=by
 unfold strings_Join.f at h
 split at h
 case isFalse=>cases h
 case isTrue hv=>
 obtain ⟨h1,h2,h3⟩:=hv;have h:=Option.some.inj h;subst h;obtain ⟨ad,rfl,hx0⟩:=Kd.at_string hr0 0 (by omega) (by omega);have hx0:w.cell? ad=some (.string (rdOf ByteArray.empty l0 0)):=hx0
 have hsp:ad.spot=none:=by
  cases hq:ad.spot with
  | none=>rfl
  | some q=>
   unfold World.cell? at hx0
   rw [hq] at hx0;split at hx0<;>simp at hx0
 obtain ⟨b,o,sp⟩:=ad;have hsp:sp=none:=hsp
 subst hsp
 have hx:∀(j:Nat) x,l0[j]?=some x→w.cell? ⟨b,o+j,none⟩=some (.string x):=by
  intro j x hj;obtain ⟨hlt,hg⟩:=List.getElem?_eq_some_iff.1 hj;obtain ⟨ad',e,h'⟩:=Kd.at_string hr0 (j:Int) (by omega) (by omega);cases e;rw [Int.toNat_natCast] at h';have e2:rdOf ByteArray.empty l0 (j:Int)=x:=by simp [rdOf,List.getD_eq_getElem?_getD,hj]
  rw [e2] at h'
  have e3:(⟨b,o,none⟩:Addr).add j=⟨b,o+j,none⟩:=by
   unfold Addr.add
   split
   ·rename_i h0;subst h0;rfl
   ·rfl
  rw [e3] at h';exact h'
 exact Go.Proofs.Tryz.strings_Join b o c0 l0 a1 w hx (World.block_lt_of_cell? w _ hx0) h2 hc0 (by simpa [joinT,ByteArray.size] using h3)
end Go.Proofs.YtahambloheoebaaGreatDoor.P
namespace Go.Proofs.YtahambloheoebaaGreatDoor.P
open Go.Proofs.YtahambloheoebaaGreatDoorX
open Go.RowKit Go.Proofs.YtahambloheoebaaGreatDoorW.PrintWords Go.Proofs.YtahambloheoebaaGreatDoorW.PrintLast Go.Proofs.YtahambloheoebaaGreatDoorW.PrintMore
attribute [local go_sem] max2_int min2_int max_two min_two max_three min_three max_four min_four
set_option linter.unusedVariables false
set_option linter.unusedSimpArgs false
mutual
def impl_Pattern_String.j0:Nat→List ByteArray→Bool→ByteArray→List (S86)→Option (ByteArray)
 | 0,_,_,_,_=>none
 | k+1,x3,x369000,x369001,x369002=>impl_Pattern_String.l0 k x3 x369002 (x369002.length:Int) 0
def impl_Pattern_String.l0:Nat→List ByteArray→List (S86)→Int→Int→Option (ByteArray)
 | 0,_,_,_,_=>none
 | k+1,x3,x15,x16,x17=>if x17<x16 then (if 0≤x17 then (if x17<(x15.length:Int) then ((impl_Term_String.f ((rd_T86 x15 x17).f0) ((rd_T86 x15 x17).f1) ((rd_T86 x15 x17).f2) ((rd_T86 x15 x17).f3.f0) ((rd_T86 x15 x17).f3.f1) ((rd_T86 x15 x17).f3.f2)).bind fun t377=>(if x3.length<8796093022208 then (impl_Pattern_String.l0 k (x3++[t377]) x15 x16 (wrap64 (x17+1))) else (none))) else (none)) else (none)) else ((strings_Join.f x3 (⟨#[32]⟩:ByteArray)).bind fun t381=>(if 1+t381.size≤9223372036854775807 then (if ((⟨#[40]⟩:ByteArray)++t381).size+1≤9223372036854775807 then (some (((⟨#[40]⟩:ByteArray)++t381)++(⟨#[41]⟩:ByteArray))) else (none)) else (none)))
end
def impl_Pattern_String.f (k:Nat) (a0_0:Bool) (a0_1:ByteArray) (l0_2:List (S86)):Option (ByteArray):=if a0_0=true then (impl_Pattern_String.j0 k (([(⟨#[110,111,116]⟩:ByteArray),a0_1]:List ByteArray)) a0_0 a0_1 l0_2) else (impl_Pattern_String.j0 k (([a0_1]:List ByteArray)) a0_0 a0_1 l0_2)
theorem impl_Pattern_String.mono_l:∀k,(∀y0 y1 y2 y3,LeO (impl_Pattern_String.j0 k y0 y1 y2 y3) (impl_Pattern_String.j0 (k+1) y0 y1 y2 y3))∧(∀y0 y1 y2 y3,LeO (impl_Pattern_String.l0 k y0 y1 y2 y3) (impl_Pattern_String.l0 (k+1) y0 y1 y2 y3))
 | 0=>⟨fun _ _ _ _ r h=>by simp [impl_Pattern_String.j0] at h,fun _ _ _ _ r h=>by simp [impl_Pattern_String.l0] at h⟩
 | k+1=>by
  obtain ⟨ih0,ih1⟩:=impl_Pattern_String.mono_l k;refine ⟨?_,?_⟩
  ·intro y0 y1 y2 y3;unfold impl_Pattern_String.j0
   repeat' with_reducible first|apply ih0|apply ih1|apply LeO.refl|apply LeO.none|refine LeO.ite ?_ ?_|refine LeO.bind ?_ (fun _=>?_)
  ·intro y0 y1 y2 y3;unfold impl_Pattern_String.l0
   repeat' with_reducible first|apply ih0|apply ih1|apply LeO.refl|apply LeO.none|refine LeO.ite ?_ ?_|refine LeO.bind ?_ (fun _=>?_)
theorem impl_Pattern_String.mono:∀a0 a1 a2 k,LeO (impl_Pattern_String.f k a0 a1 a2) (impl_Pattern_String.f (k+1) a0 a1 a2):=by
 intro a0 a1 a2 k;obtain ⟨ih0,ih1⟩:=impl_Pattern_String.mono_l k;unfold impl_Pattern_String.f
 repeat' with_reducible first|apply ih0|apply ih1|apply LeO.refl|apply LeO.none|refine LeO.ite ?_ ?_|refine LeO.bind ?_ (fun _=>?_)
set_option maxHeartbeats 8000000 in
set_option maxRecDepth 100000 in
theorem impl_Pattern_String.calls (k:Nat) (a0_0:Bool) (a0_1:ByteArray) (A0_2:Option Addr) (c0_2:Nat) (l0_2:List (S86)) (r:ByteArray) (w:World) (hr0_2:Kd.C k86 w A0_2 l0_2.length l0_2) (hc0_2:l0_2.length≤c0_2) (h:impl_Pattern_String.f k a0_0 a0_1 l0_2=some r) (htb_:Go.Proofs.YtahambloheoebaaGreatDoorX.TBS w:=by first|assumption|(with_reducible refine Go.Proofs.YtahambloheoebaaGreatDoorX.TBS.below (Aside0.out HTB) ?_;repeat (first|(with_reducible first|exact HB.out|apply below_alloc|apply pw_below_drewN|apply below_drew1)|exact HB.out|refine below_set ?_ (Aside0.out (by assumption))))):
  Calls Tryz.prog 44 #[.agg #[.bool a0_0,.string a0_1,.slice A0_2 l0_2.length c0_2]] w fun e w'=>e=.returned (.string r)∧Below w.heap.size w w':=by
 have HTB:=a_ htb_;clear htb_;have hu42:=Tryz.underlying42;have hu86:=Tryz.underlying86;have HR0_2:=a_ hr0_2;have HC0_2:=a_ hc0_2;clear hr0_2 hc0_2;have HB:=a_ (Below.refl w.heap.size w);have H:=h;unfold impl_Pattern_String.f at H
 clear h;obtain ⟨y369,hy369⟩:∃y_:List ByteArray,y_=(([a0_1]:List ByteArray)):=⟨_,rfl⟩;replace H:(if a0_0=true then (impl_Pattern_String.j0 k (([(⟨#[110,111,116]⟩:ByteArray),a0_1]:List ByteArray)) a0_0 a0_1 l0_2) else (impl_Pattern_String.j0 k y369 a0_0 a0_1 l0_2))=some r:=by first|(rw [hy369];with_reducible exact H)|(have H2_:=(Option.bind_some _ _).symm.trans H;rw [hy369];with_reducible exact H2_)|(have H2_:=(Option.bind_some _ _).symm.trans H;with_reducible exact H2_)|with_reducible exact H|(rw [hy369];exact H)|exact H
 have Ny369:=a_ hy369;clear hy369;have HC2:=a_ H;clear H;go_enter Tryz.func44,Tryz.ntmps44;go_upto_if 10 with (first|((with_reducible refine gate_dst (N:=1) rfl ?_);refine bh_ 1 #[.bool a0_0,.string a0_1,.slice A0_2 l0_2.length c0_2] 42 HB ?_;intro gb368 hg w3 BK368 GE368 hb;replace HB:=ms_ HB hb;clear hb hg;replace hz368:=cz3 BK368)|((with_reducible refine gate_dst (N:=8) rfl ?_);refine Kd.R_lit Kd.string _ 9 ?hg (N:=8) ?hd (xs:=([a0_1]:List ByteArray)) (inner:=[.string a0_1]) (ok:=fun _=>True) (okp:=fun _=>True) ?hr ?hp (fun _ hk=>hk) trivial (Below.refl _ _) (Nat.le_refl _) (by simp) ?_;(case hd=>rfl);(case hg=>rfl);(case hr=>first|(go_simp;done)|(go_simp;rfl));(case hp=>exact (Reps.one (show Kd.M Kd.string _ _ _ a0_1 [.string a0_1] from rfl) (Reps.none _ _)));intro v370 w5 ho6 hb hg_ hnew_;clear hg_ hnew_;(first|rw [←Ny369.out] at ho6|(simp only [Int.reduceToNat] at ho6;rw [←Ny369.out] at ho6));have HO371:=a_ (Kd.R_lower ho6 (below_size (mb_ HB)));replace BK368:=mk_ BK368 hb;replace HB:=ms_ HB hb;clear hb ho6;replace hz368:=cz3 BK368))
 (try simp only [Act.put,List.setIfInBounds_toArray,List.set_cons_zero,List.set_cons_succ]);go_cut [3] (fun v3 wc=>∃(kq:Nat) (x3_1:List ByteArray),Aside0 (impl_Pattern_String.j0 kq x3_1 a0_0 a0_1 l0_2=some r)∧Aside0 (kq≤k)∧Aside0 (Kd.R Kd.string 9 wc w.heap.size (fun _=>True) v3 x3_1)∧Aside0 (wc.heap[gb368]?=some (.cells #[.bool a0_0,.string a0_1,(.slice A0_2 l0_2.length c0_2)] 42 (0,0)))∧Aside0 (Below w.heap.size w wc))
 case first=>
  have H:=HC2.out;clear HC2;by_cases c8:a0_0=true
  ·subst c8;have H1:(impl_Pattern_String.j0 k (([(⟨#[110,111,116]⟩:ByteArray),a0_1]:List ByteArray)) true a0_1 l0_2)=some r:=by first|(rw [if_pos rfl] at H;exact H)|rfl
   clear H;have H:=H1;clear H1;obtain ⟨y372,hy372⟩:∃y_:List ByteArray,y_=(([(⟨#[110,111,116]⟩:ByteArray),a0_1]:List ByteArray)):=⟨_,rfl⟩;replace H:(impl_Pattern_String.j0 k y372 true a0_1 l0_2)=some r:=by first|(rw [hy372];with_reducible exact H)|(have H2_:=(Option.bind_some _ _).symm.trans H;rw [hy372];with_reducible exact H2_)|(have H2_:=(Option.bind_some _ _).symm.trans H;with_reducible exact H2_)|with_reducible exact H|(rw [hy372];exact H)|exact H
   have Ny372:=a_ hy372;clear hy372;have H':=a_ H;clear H;replace hz368:=cz3 BK368;go_wp2_with (first|((with_reducible refine gate_dst (N:=13) rfl ?_);refine Kd.R_lit Kd.string _ 9 ?hg (N:=13) ?hd (xs:=([(⟨#[110,111,116]⟩:ByteArray),a0_1]:List ByteArray)) (inner:=[.string (⟨#[110,111,116]⟩:ByteArray),.string a0_1]) (ok:=fun _=>True) (okp:=fun _=>True) ?hr ?hp (fun _ hk=>hk) trivial (Below.refl _ _) (Nat.le_refl _) (by simp) ?_;(case hd=>rfl);(case hg=>rfl);(case hr=>first|(go_simp;done)|(go_simp;rfl));(case hp=>exact (Reps.one (show Kd.M Kd.string _ _ _ (⟨#[110,111,116]⟩:ByteArray) [.string (⟨#[110,111,116]⟩:ByteArray)] from rfl) (Reps.one (show Kd.M Kd.string _ _ _ a0_1 [.string a0_1] from rfl) (Reps.none _ _))));intro v373 wx ho11 hb hg_ hnew_;clear hg_ hnew_;(first|rw [←Ny372.out] at ho11|(simp only [Int.reduceToNat] at ho11;rw [←Ny372.out] at ho11));have HO374:=a_ (Kd.R_lower (Kd.R_new' ho11 (Kd.R_lt (mo_ HO371.out))) (below_size (mb_ HB)));replace HO371:=a_ (Kd.R_elder' (mo_ HO371.out) (Kd.R_base ho11) hb);replace BK368:=mk_ BK368 hb;replace HB:=ms_ HB hb;clear hb ho11));go_meet
   case rel=>exact ⟨_,(y372),H',⟨by first|omega|exact Nat.le_refl _⟩,⟨mo_ (Kd.R_mono HO374.out (fun _ hk=>trivial))⟩,⟨mc_ BK368⟩,⟨mb_ HB⟩⟩
  ·replace c8:=Bool.eq_false_iff.mpr c8;subst c8;have H1:(impl_Pattern_String.j0 k y369 false a0_1 l0_2)=some r:=by first|(rw [if_neg (show ¬(false=true) by decide)] at H;exact H)|rfl
   clear H;have H:=H1;clear H1;have H':=a_ H;clear H;go_wp2;go_meet
   case rel=>exact ⟨_,(y369),H',⟨by first|omega|exact Nat.le_refl _⟩,⟨mo_ HO371.out⟩,⟨mc_ BK368⟩,⟨mb_ HB⟩⟩
 clear HC2;(try clear hz368);obtain ⟨kq,x3_1,HA,HJ1,HO_3,BK368,HB⟩:=hcut;obtain _|kj1:=kq
 ·exact absurd HA.out (by simp [impl_Pattern_String.j0])
 have H:=HA.out;clear HA;simp only [impl_Pattern_String.j0] at H;have H':=a_ H;clear H;replace hz368:=cz3 BK368;go_wp2;go_loopg [3,17] kj1 (fun kq v3 v17 w'=>∃(x3_2:List ByteArray) (x17_2:Int),v17=.int .i64 x17_2∧Aside0 (impl_Pattern_String.l0 kq x3_2 l0_2 (l0_2.length:Int) x17_2=some r)∧Aside0 (kq≤kj1)∧Aside0 (Kd.R Kd.string 9 w' w.heap.size (fun _=>True) v3 x3_2)∧Aside0 (w'.heap[gb368]?=some (.cells #[.bool a0_0,.string a0_1,(.slice A0_2 l0_2.length c0_2)] 42 (0,0)))∧Aside0 (Below w.heap.size w w'))
 case atStart=>exact ⟨(x3_1),(0),mq_,H',⟨Nat.le_refl _⟩,⟨mo_ HO_3.out⟩,⟨mc_ BK368⟩,⟨mb_ HB⟩⟩
 clear H';(try clear hz368);obtain ⟨x3_2,x17_2,rfl,HA,HK2,HO_3,BK368,HB⟩:=hrel;obtain _|k2:=gk
 ·exact absurd HA.out (by simp [impl_Pattern_String.l0])
 have H:=HA.out;clear HA;simp only [impl_Pattern_String.l0] at H;by_cases c13:x17_2<(l0_2.length:Int)
 ·rw [if_pos c13] at H;have c13b0:=ct_ c13;clear c13;by_cases c14:0≤x17_2
  case neg=>
   rw [if_neg c14] at H;cases H
  rw [if_pos c14] at H;have c14b0:=ct_ c14;clear c14;by_cases c15:x17_2<(l0_2.length:Int)
  case neg=>
   rw [if_neg c15] at H;cases H
  rw [if_pos c15] at H;have c15b0:=ct_ c15;clear c15;replace H:=Option.bind_eq_some_iff.mp H;obtain ⟨t377,A160,H⟩:=H;replace H:(if x3_2.length<8796093022208 then (impl_Pattern_String.l0 k2 (x3_2++[t377]) l0_2 (l0_2.length:Int) (wrap64 (x17_2+1))) else (none))=some r:=H
  have A16:=a_ A160;clear A160;by_cases c17:x3_2.length<8796093022208
  case neg=>
   rw [if_neg c17] at H;cases H
  rw [if_pos c17] at H;have LMc17:=a_ c17;clear c17;obtain ⟨y378,hy378⟩:∃y_:List ByteArray,y_=(x3_2++[t377]):=⟨_,rfl⟩;replace H:(impl_Pattern_String.l0 k2 y378 l0_2 (l0_2.length:Int) (wrap64 (x17_2+1)))=some r:=by first|(rw [hy378];with_reducible exact H)|(have H2_:=(Option.bind_some _ _).symm.trans H;rw [hy378];with_reducible exact H2_)|(have H2_:=(Option.bind_some _ _).symm.trans H;with_reducible exact H2_)|with_reducible exact H|(rw [hy378];exact H)|exact H
  have Ny378:=a_ hy378;clear hy378;have H':=a_ H;clear H;have p375:0≤(x17_2:Int):=md_
  have q375:x17_2<(l0_2.length:Int):=md_
  obtain ⟨ad375,e375,hx375_0,hx375_1,hx375_2,hx375_3,hx375_4,hx375_5⟩:=at_T86 HR0_2.out x17_2 p375 q375;cases e375;replace hx375_0:=mx_ HB hx375_0;replace hx375_1:=mx_ HB hx375_1;replace hx375_2:=mx_ HB hx375_2;replace hx375_3:=mx_ HB hx375_3;replace hx375_4:=mx_ HB hx375_4;replace hx375_5:=mx_ HB hx375_5;replace p375:=eq_true p375;replace q375:=eq_true q375;go_wp2_with (first|((with_reducible refine gate_dst (N:=5) rfl ?_);refine bh_ 5 #[.int .i64 0,.int .i64 0,.string (⟨#[]⟩:ByteArray),.int .i64 0,.int .i64 0,.string (⟨#[]⟩:ByteArray)] 86 HB ?_;intro gb376 hg wx BK376 GE376 hb;obtain ⟨NB368_376,NB376_368⟩:=mn_ BK368 hg;replace HO_3:=ro_ HO_3 hb;replace BK368:=mk_ BK368 hb;replace HB:=ms_ HB hb;clear hb hg;have nNB376_368:=NB376_368.out;have nNB368_376:=NB368_376.out;replace hz376:=cz6 BK376)|((with_reducible refine gate_callee (f:=88) rfl ?_);refine goesL_ (some 23) rfl rfl Tryz.func88 (by kernel_rfl) rfl #[.agg #[.int .i64 ((rd_T86 l0_2 x17_2).f0),.int .i64 ((rd_T86 l0_2 x17_2).f1),.string ((rd_T86 l0_2 x17_2).f2),.int .i64 ((rd_T86 l0_2 x17_2).f3.f0),.int .i64 ((rd_T86 l0_2 x17_2).f3.f1),.string ((rd_T86 l0_2 x17_2).f3.f2)]] rfl mw_ ?_;(with_reducible refine (impl_Term_String.calls ((rd_T86 l0_2 x17_2).f0) ((rd_T86 l0_2 x17_2).f1) ((rd_T86 l0_2 x17_2).f2) ((rd_T86 l0_2 x17_2).f3.f0) ((rd_T86 l0_2 x17_2).f3.f1) ((rd_T86 l0_2 x17_2).f3.f2) t377 _ A16.out).mono ?_);rintro e wx ⟨rfl,hb⟩;refine ⟨_,rfl,?_⟩;replace HO_3:=a_ (Kd.R_below ((Kd.R_mono (mf_ HO_3 BK376) (fun _ h_=>h_.1))) hb);replace BK368:=mk_ BK368 hb;replace BK376:=a_ (blk_below (g:=gb376) (o:=.cells #[.int .i64 ((rd_T86 l0_2 x17_2).f0),.int .i64 ((rd_T86 l0_2 x17_2).f1),.string ((rd_T86 l0_2 x17_2).f2),.int .i64 ((rd_T86 l0_2 x17_2).f3.f0),.int .i64 ((rd_T86 l0_2 x17_2).f3.f1),.string ((rd_T86 l0_2 x17_2).f3.f2)] 86 (0,0)) (mp_ BK376) hb);replace HB:=ms_ HB hb;(try clear hb))|((with_reducible refine gate_builtin (b:=.append) (xs:=#[.tmp 21,.tmp 24]) rfl ?_);at_builtin;refine Kd.R_append Kd.string (w0:=w) w.heap.size rfl (.tmp 21) (.tmp 24) 147 9 (.string ⟨#[]⟩) 16 rfl Tryz.underlying147 info9 rfl (by decide) (by omega) u3 x3_2 t377 [.string t377] (fun _=>True) (fun _=>False) rfl rfl ?aP (fun _ hk=>hk.elim) ?aF ?aO ?aB ?aS ?aL ?_;(case aP=>exact rfl);(case aB=>exact (mb_ HB));(case aF=>exact (fun _ _=>trivial));(case aO=>exact (mo_ HO_3.out));(case aS=>exact (below_size (mb_ HB)));(case aL=>have:=LMc17.out;omega);intro v379 wx ho hb hg hat;rw [←Ny378.out] at ho;have HO380:=a_ (ho);replace BK368:=a_ (blk_grown (mc_ BK368) hg (Kd.R_ne HO_3.out BK368.out (by decide)));replace BK376:=a_ (blk_grown (mc_ BK376) hg (Kd.R_ne HO_3.out BK376.out (by decide)));replace HB:=a_ (hb);clear HO_3;clear ho hb hg hat));go_roundg k2
  case measure=>
   have:=HJ1.out
   have:=HK2.out
   omega
  case rel=>exact ⟨(y378),(wrap64 (x17_2+1)),mq_,H',⟨by have:=HJ1.out;have:=HK2.out;omega⟩,⟨mo_ HO380.out⟩,⟨mc_ BK368⟩,⟨mb_ HB⟩⟩
 ·rw [if_neg c13] at H;have c13b0:=cf_ c13;clear c13;replace H:=Option.bind_eq_some_iff.mp H;obtain ⟨t381,A230,H⟩:=H;replace H:(if 1+t381.size≤9223372036854775807 then (if ((⟨#[40]⟩:ByteArray)++t381).size+1≤9223372036854775807 then (some (((⟨#[40]⟩:ByteArray)++t381)++(⟨#[41]⟩:ByteArray))) else (none)) else (none))=some r:=H
  have A23:=a_ A230;clear A230;by_cases c24:1+t381.size≤9223372036854775807
  case neg=>
   rw [if_neg c24] at H;cases H
  rw [if_pos c24] at H;have c24b0:=eq_true c24;have c24b1:=ct_ c24;try have c24b2:(9223372036854775807<1+t381.size)=False:=eq_false (Nat.not_lt.2 c24)
  by_cases c25:((⟨#[40]⟩:ByteArray)++t381).size+1≤9223372036854775807
  case neg=>
   rw [if_neg c25] at H;cases H
  rw [if_pos c25] at H;have c25b0:=eq_true c25;have c25b1:=ct_ c25;try have c25b2:(9223372036854775807<((⟨#[40]⟩:ByteArray)++t381).size+1)=False:=eq_false (Nat.not_lt.2 c25)
  try have c25b3:(9223372036854775807<1+t381.size+1)=False:=eq_false (by have e0_:((⟨#[40]⟩:ByteArray)++t381).size=1+t381.size:=by { simp only [ByteArray.size_append];first|rfl|omega };omega)
  obtain rfl:=oi_ H;obtain ⟨Ao26,co26,eo26⟩:=Kd.R_slice HO_3.out;subst eo26;go_wp2_with (first|((with_reducible refine gate_callee (f:=89) rfl ?_);refine goesL_ (some 28) rfl rfl Tryz.func89 (by kernel_rfl) rfl #[.slice Ao26 x3_2.length co26,.string (⟨#[32]⟩:ByteArray)] rfl mw_ ?_;(with_reducible refine (strings_Join.calls _ _ x3_2 (⟨#[32]⟩:ByteArray) t381 _ ?side1 ?side2 A23.out).mono ?_);(case side1=>repeat (first|exact (Kd.R_reads' HO_3.out).2.2|(with_reducible refine Kd.C_alloc ?_ _)|(with_reducible refine Kd.C_drewN ?_ _)|(with_reducible refine Kd.C_drew ?_)));(case side2=>exact (Kd.R_reads' HO_3.out).2.1);rintro e wx ⟨rfl,hb⟩;refine ⟨_,rfl,?_⟩;replace HO_3:=ro_ HO_3 hb;replace BK368:=mk_ BK368 hb;replace HB:=ms_ HB hb;(try clear hb)));go_ret;exact ⟨me_,mb_ HB⟩
end Go.Proofs.YtahambloheoebaaGreatDoor.P
namespace Go.Proofs.YtahambloheoebaaGreatDoor.P
open Go.Proofs.YtahambloheoebaaGreatDoorX
open Go.RowKit Go.Proofs.YtahambloheoebaaGreatDoorW.PrintWords Go.Proofs.YtahambloheoebaaGreatDoorW.PrintLast Go.Proofs.YtahambloheoebaaGreatDoorW.PrintMore
attribute [local go_sem] max2_int min2_int max_two min_two max_three min_three max_four min_four
set_option linter.unusedVariables false
set_option linter.unusedSimpArgs false
open Go.Proofs.YtahambloheoebaaGreatDoorX
def strconv_Itoa.f (a0:Int):Option ByteArray:=if I64 a0 then some (itoaB a0) else none
theorem strconv_Itoa.calls (a0:Int) (r:ByteArray) (w:World) (h:strconv_Itoa.f a0=some r) (htb_:Go.Proofs.YtahambloheoebaaGreatDoorX.TB w:=by first|assumption|(with_reducible refine Go.Proofs.YtahambloheoebaaGreatDoorX.TB.below (Aside0.out HTB) ?_;repeat (first|(with_reducible first|exact HB.out|apply below_alloc|apply pw_below_drewN|apply below_drew1)|exact HB.out|refine below_set ?_ (Aside0.out (by assumption))))|(with_reducible refine Go.Proofs.YtahambloheoebaaGreatDoorX.TBS.TB (Aside0.out HTB) ?_;repeat (first|(with_reducible first|exact HB.out|apply below_alloc|apply pw_below_drewN|apply below_drew1)|exact HB.out|refine below_set ?_ (Aside0.out (by assumption))))):
  Calls Tryz.prog 65 #[.int .i64 a0] w fun e w'=>e=.returned (.string r)∧Below w.heap.size w w':=by
 unfold strconv_Itoa.f at h
 split at h
 case isFalse=>cases h
 case isTrue hv=>
 have h:=Option.some.inj h;subst h;refine (Go.Proofs.Tryz.strconv_Itoa a0 hv.1 hv.2 w htb_).mono ?_;rintro e w' ⟨rfl,k,os,rfl⟩;exact ⟨rfl,Go.Lib.below_grow _ _ (Nat.le_refl _) _ _⟩
end Go.Proofs.YtahambloheoebaaGreatDoor.P
namespace Go.Proofs.YtahambloheoebaaGreatDoor.P
open Go.Proofs.YtahambloheoebaaGreatDoorX
open Go.RowKit Go.Proofs.YtahambloheoebaaGreatDoorW.PrintWords Go.Proofs.YtahambloheoebaaGreatDoorW.PrintLast Go.Proofs.YtahambloheoebaaGreatDoorW.PrintMore
attribute [local go_sem] max2_int min2_int max_two min_two max_three min_three max_four min_four
set_option linter.unusedVariables false
set_option linter.unusedSimpArgs false
def impl_Rule_expr.f:Nat→ByteArray→Int→List (S42)→List (S161)→List (S98)→Int→Option (ByteArray)
 | 0,_,_,_,_,_,_=>none
 | k+1,a0_0,a0_1,l0_2,l0_3,l0_4,a1=>if 0≤a1 then (if a1<(l0_3.length:Int) then (if ((rd_T161 l0_3 a1).f0)=0 then ((impl_Value_String.f ((rd_T161 l0_3 a1).f3.f0) ((rd_T161 l0_3 a1).f3.f1) ((rd_T161 l0_3 a1).f3.f2)).bind fun t385=>(some t385)) else (if ((rd_T161 l0_3 a1).f0)=1 then (if 1+((rd_T161 l0_3 a1).f2).size≤9223372036854775807 then (some ((⟨#[63]⟩:ByteArray)++((rd_T161 l0_3 a1).f2))) else (none)) else (if 1+(Utf8.encode (wrap32 ((rd_T161 l0_3 a1).f1))).size≤9223372036854775807 then (if ((⟨#[40]⟩:ByteArray)++(Utf8.encode (wrap32 ((rd_T161 l0_3 a1).f1)))).size+1≤9223372036854775807 then ((impl_Rule_expr.f k a0_0 a0_1 l0_2 l0_3 l0_4 ((rd_T161 l0_3 a1).f4)).bind fun t386=>(if (((⟨#[40]⟩:ByteArray)++(Utf8.encode (wrap32 ((rd_T161 l0_3 a1).f1))))++(⟨#[32]⟩:ByteArray)).size+t386.size≤9223372036854775807 then (if ((((⟨#[40]⟩:ByteArray)++(Utf8.encode (wrap32 ((rd_T161 l0_3 a1).f1))))++(⟨#[32]⟩:ByteArray))++t386).size+1≤9223372036854775807 then ((impl_Rule_expr.f k a0_0 a0_1 l0_2 l0_3 l0_4 ((rd_T161 l0_3 a1).f5)).bind fun t387=>(if (((((⟨#[40]⟩:ByteArray)++(Utf8.encode (wrap32 ((rd_T161 l0_3 a1).f1))))++(⟨#[32]⟩:ByteArray))++t386)++(⟨#[32]⟩:ByteArray)).size+t387.size≤9223372036854775807 then (if ((((((⟨#[40]⟩:ByteArray)++(Utf8.encode (wrap32 ((rd_T161 l0_3 a1).f1))))++(⟨#[32]⟩:ByteArray))++t386)++(⟨#[32]⟩:ByteArray))++t387).size+1≤9223372036854775807 then (some (((((((⟨#[40]⟩:ByteArray)++(Utf8.encode (wrap32 ((rd_T161 l0_3 a1).f1))))++(⟨#[32]⟩:ByteArray))++t386)++(⟨#[32]⟩:ByteArray))++t387)++(⟨#[41]⟩:ByteArray))) else (none)) else (none))) else (none)) else (none))) else (none)) else (none)))) else (none)) else (none)
theorem impl_Rule_expr.mono_l:∀k,(∀y0 y1 y2 y3 y4 y5,LeO (impl_Rule_expr.f k y0 y1 y2 y3 y4 y5) (impl_Rule_expr.f (k+1) y0 y1 y2 y3 y4 y5))
 | 0=>fun _ _ _ _ _ _ r h=>by simp [impl_Rule_expr.f] at h
 | k+1=>by
  have ih0:=impl_Rule_expr.mono_l k
  ·intro y0 y1 y2 y3 y4 y5;unfold impl_Rule_expr.f
   repeat' with_reducible first|apply ih0|apply LeO.refl|apply LeO.none|refine LeO.ite ?_ ?_|refine LeO.bind ?_ (fun _=>?_)
theorem impl_Rule_expr.mono:∀a0 a1 a2 a3 a4 a5 k,LeO (impl_Rule_expr.f k a0 a1 a2 a3 a4 a5) (impl_Rule_expr.f (k+1) a0 a1 a2 a3 a4 a5):=by
 intro a0 a1 a2 a3 a4 a5 k;have ih0:=impl_Rule_expr.mono_l k;exact ih0 a0 a1 a2 a3 a4 a5
def impl_Rule_expr.T3:Bool×List (List Nat×List Nat):=(true,[([],[]),([0],[0]),([1],[1]),([2],[2]),([3],[3]),([4],[4]),([],[]),([],[]),([7],[7]),([6,8],[6,8]),([5,9],[5,9]),([10],[10]),([],[]),([],[]),([13],[13]),([12,14,9],[12,14]),([11,15],[11,15]),([16],[16]),([17,15,0,1,2,3,4,5,6,7,8,9,10,11,12,13,14,15,16,17],[17])])
def impl_Rule_expr.B3:List Nat:=[0,1,3,7,15,31,0,0,128,448,1023,2047,0,0,8192,29632,65535,131071,262143]
theorem impl_Rule_expr.tab3:rtab .any (opsOf Tryz.f90 3)=impl_Rule_expr.T3:=by kernel_rfl
theorem impl_Rule_expr.bits3:waitsOk impl_Rule_expr.T3.2 impl_Rule_expr.B3=true:=by kernel_rfl
abbrev b9e2_0:Array Bool:=#[f_,f_,f_,f_,f_,f_,f_,f_,f_,f_,f_,f_,f_,f_,f_,f_,f_,f_,f_]
abbrev b9e2_1:Array Bool:=#[t_,f_,f_,f_,f_,f_,f_,f_,f_,f_,f_,f_,f_,f_,f_,f_,f_,f_,f_]
abbrev b9e2_2:Array Bool:=#[t_,f_,f_,f_,f_,f_,f_,t_,f_,f_,f_,f_,f_,f_,f_,f_,f_,f_,f_]
abbrev b9e2_3:Array Bool:=#[t_,f_,f_,f_,f_,f_,f_,t_,f_,f_,f_,f_,f_,t_,f_,f_,f_,f_,f_]
abbrev b9e2_4:Array Bool:=#[t_,t_,f_,f_,f_,f_,f_,t_,f_,f_,f_,f_,f_,t_,f_,f_,f_,f_,f_]
abbrev b9e2_5:Array Bool:=#[t_,t_,t_,f_,f_,f_,f_,t_,f_,f_,f_,f_,f_,t_,f_,f_,f_,f_,f_]
abbrev b9e2_6:Array Bool:=#[t_,t_,t_,t_,f_,f_,f_,t_,f_,f_,f_,f_,f_,t_,f_,f_,f_,f_,f_]
abbrev b9e2_7:Array Bool:=#[t_,t_,t_,t_,t_,f_,f_,t_,f_,f_,f_,f_,f_,t_,f_,f_,f_,f_,f_]
abbrev b9e2_8:Array Bool:=#[t_,t_,t_,t_,t_,t_,f_,t_,f_,f_,f_,f_,f_,t_,f_,f_,f_,f_,f_]
abbrev b9e2_9:Array Bool:=#[t_,t_,t_,t_,t_,t_,t_,t_,f_,f_,f_,f_,f_,t_,f_,f_,f_,f_,f_]
abbrev b9e2_10:Array Bool:=#[t_,t_,t_,t_,t_,t_,t_,t_,t_,f_,f_,f_,f_,t_,f_,f_,f_,f_,f_]
abbrev b9e2_11:Array Bool:=#[t_,t_,t_,t_,t_,t_,t_,t_,t_,f_,f_,f_,t_,t_,f_,f_,f_,f_,f_]
abbrev b9e2_12:Array Bool:=#[t_,t_,t_,t_,t_,t_,t_,t_,t_,f_,f_,f_,t_,t_,t_,f_,f_,f_,f_]
abbrev b9e2_13:Array Bool:=#[t_,t_,t_,t_,t_,t_,t_,t_,t_,t_,f_,f_,t_,t_,t_,f_,f_,f_,f_]
abbrev b9e2_14:Array Bool:=#[t_,t_,t_,t_,t_,t_,t_,t_,t_,t_,t_,f_,t_,t_,t_,f_,f_,f_,f_]
abbrev b9e2_15:Array Bool:=#[t_,t_,t_,t_,t_,t_,t_,t_,t_,t_,t_,t_,t_,t_,t_,f_,f_,f_,f_]
abbrev b9e2_16:Array Bool:=#[t_,t_,t_,t_,t_,t_,t_,t_,t_,t_,t_,t_,t_,t_,t_,t_,f_,f_,f_]
abbrev b9e2_17:Array Bool:=#[t_,t_,t_,t_,t_,t_,t_,t_,t_,t_,t_,t_,t_,t_,t_,t_,t_,f_,f_]
abbrev b9e2_18:Array Bool:=#[t_,t_,t_,t_,t_,t_,t_,t_,t_,t_,t_,t_,t_,t_,t_,t_,t_,t_,f_]
abbrev b9e2_19:Array Bool:=#[t_,t_,t_,t_,t_,t_,t_,t_,t_,t_,t_,t_,t_,t_,t_,t_,t_,t_,t_]
theorem u9e2_0 {p:Prop} (h:p:=by
 obtain rfl:=oi_ H;go_enter Tryz.func90,Tryz.ntmps90;go_wp2_with (first|((with_reducible refine gate_dst (N:=2) rfl ?_);refine bh_ 2 #[.string a0_0,.int .i64 a0_1,.slice A0_2 l0_2.length c0_2,.slice A0_3 l0_3.length c0_3,.slice A0_4 l0_4.length c0_4] 39 HB ?_;intro gb382 hg wx BK382 GE382 hb;replace HB:=ms_ HB hb;clear hb hg;replace hz382:=cz5 BK382;have p383:0≤(a1:Int):=md_;have q383:a1<(l0_3.length:Int):=md_;obtain ⟨ad383,e383,hx383_0,hx383_1,hx383_2,hx383_3,hx383_4,hx383_5,hx383_6,hx383_7⟩:=at_T161 HR0_3.out a1 p383 q383;cases e383;replace hx383_0:=mx_ HB hx383_0;replace hx383_1:=mx_ HB hx383_1;replace hx383_2:=mx_ HB hx383_2;replace hx383_3:=mx_ HB hx383_3;replace hx383_4:=mx_ HB hx383_4;replace hx383_5:=mx_ HB hx383_5;replace hx383_6:=mx_ HB hx383_6;replace hx383_7:=mx_ HB hx383_7;replace p383:=eq_true p383;replace q383:=eq_true q383)|((with_reducible refine gate_dst (N:=5) rfl ?_);refine bh_ 5 #[.int .i64 0,.int .u8 0,.string (⟨#[]⟩:ByteArray),.int .i64 0,.int .i64 0,.string (⟨#[]⟩:ByteArray),.int .i64 0,.int .i64 0] 161 HB ?_;intro gb384 hg wx BK384 GE384 hb;obtain ⟨NB382_384,NB384_382⟩:=mn_ BK382 hg;replace BK382:=mk_ BK382 hb;replace HB:=ms_ HB hb;clear hb hg;have nNB384_382:=NB384_382.out;have nNB382_384:=NB382_384.out;replace hz384:=cz8 BK384)|((with_reducible refine gate_callee (f:=66) rfl ?_);refine goesL_ (some 35) rfl rfl Tryz.func66 (by kernel_rfl) rfl #[.agg #[.int .i64 ((rd_T161 l0_3 a1).f3.f0),.int .i64 ((rd_T161 l0_3 a1).f3.f1),.string ((rd_T161 l0_3 a1).f3.f2)]] rfl mw_ ?_;(with_reducible refine (impl_Value_String.calls ((rd_T161 l0_3 a1).f3.f0) ((rd_T161 l0_3 a1).f3.f1) ((rd_T161 l0_3 a1).f3.f2) t385 _ A6.out).mono ?_);rintro e wx ⟨rfl,hb⟩;refine ⟨_,rfl,?_⟩;replace BK382:=mk_ BK382 hb;replace BK384:=a_ (blk_below (g:=gb384) (o:=.cells #[.int .i64 ((rd_T161 l0_3 a1).f0),.int .u8 ((rd_T161 l0_3 a1).f1),.string ((rd_T161 l0_3 a1).f2),.int .i64 ((rd_T161 l0_3 a1).f3.f0),.int .i64 ((rd_T161 l0_3 a1).f3.f1),.string ((rd_T161 l0_3 a1).f3.f2),.int .i64 ((rd_T161 l0_3 a1).f4),.int .i64 ((rd_T161 l0_3 a1).f5)] 161 (0,0)) (mp_ BK384) hb);replace HB:=ms_ HB hb;(try clear hb)));go_ret;exact ⟨me_,mb_ HB⟩):p:=h
set_option maxHeartbeats 8000000 in
set_option maxRecDepth 100000 in
theorem impl_Rule_expr.calls (k:Nat):∀(a0_0:ByteArray) (a0_1:Int) (A0_2:Option Addr) (c0_2:Nat) (l0_2:List (S42)) (A0_3:Option Addr) (c0_3:Nat) (l0_3:List (S161)) (A0_4:Option Addr) (c0_4:Nat) (l0_4:List (S98)) (a1:Int) (r:ByteArray) (w:World) (hr0_2:Kd.C k42 w A0_2 l0_2.length l0_2) (hc0_2:l0_2.length≤c0_2) (hr0_3:Kd.C k161 w A0_3 l0_3.length l0_3) (hc0_3:l0_3.length≤c0_3) (hr0_4:Kd.C k98 w A0_4 l0_4.length l0_4) (hc0_4:l0_4.length≤c0_4) (h:impl_Rule_expr.f k a0_0 a0_1 l0_2 l0_3 l0_4 a1=some r) (htb_:Go.Proofs.YtahambloheoebaaGreatDoorX.TB w:=by first|assumption|(with_reducible refine Go.Proofs.YtahambloheoebaaGreatDoorX.TB.below (Aside0.out HTB) ?_;repeat (first|(with_reducible first|exact HB.out|apply below_alloc|apply pw_below_drewN|apply below_drew1)|exact HB.out|refine below_set ?_ (Aside0.out (by assumption))))|(with_reducible refine Go.Proofs.YtahambloheoebaaGreatDoorX.TBS.TB (Aside0.out HTB) ?_;repeat (first|(with_reducible first|exact HB.out|apply below_alloc|apply pw_below_drewN|apply below_drew1)|exact HB.out|refine below_set ?_ (Aside0.out (by assumption))))),
  Calls Tryz.prog 90 #[.agg #[.string a0_0,.int .i64 a0_1,.slice A0_2 l0_2.length c0_2,.slice A0_3 l0_3.length c0_3,.slice A0_4 l0_4.length c0_4],.int .i64 a1] w fun e w'=>e=.returned (.string r)∧Below w.heap.size w w':=by
 induction k using Nat.strongRecOn with
 | _ k ih=>
 intro a0_0 a0_1 A0_2 c0_2 l0_2 A0_3 c0_3 l0_3 A0_4 c0_4 l0_4 a1 r w hr0_2 hc0_2 hr0_3 hc0_3 hr0_4 hc0_4 h htb_;have HTB:=a_ htb_;clear htb_;cases k with
 | zero=>exact absurd h (by simp [impl_Rule_expr.f])
 | succ k=>
 simp only [impl_Rule_expr.f] at h;have hu39:=Tryz.underlying39;have hu161:=Tryz.underlying161;have hu80:=Tryz.underlying80;have HR0_2:=a_ hr0_2;have HC0_2:=a_ hc0_2;clear hr0_2 hc0_2;have HR0_3:=a_ hr0_3;have HC0_3:=a_ hc0_3;clear hr0_3 hc0_3;have HR0_4:=a_ hr0_4;have HC0_4:=a_ hc0_4;clear hr0_4 hc0_4;have HB:=a_ (Below.refl w.heap.size w);have H:(if 0≤a1 then (if a1<(l0_3.length:Int) then (if ((rd_T161 l0_3 a1).f0)=0 then ((impl_Value_String.f ((rd_T161 l0_3 a1).f3.f0) ((rd_T161 l0_3 a1).f3.f1) ((rd_T161 l0_3 a1).f3.f2)).bind fun t385=>(some t385)) else (if ((rd_T161 l0_3 a1).f0)=1 then (if 1+((rd_T161 l0_3 a1).f2).size≤9223372036854775807 then (some ((⟨#[63]⟩:ByteArray)++((rd_T161 l0_3 a1).f2))) else (none)) else (if 1+(Utf8.encode (wrap32 ((rd_T161 l0_3 a1).f1))).size≤9223372036854775807 then (if ((⟨#[40]⟩:ByteArray)++(Utf8.encode (wrap32 ((rd_T161 l0_3 a1).f1)))).size+1≤9223372036854775807 then ((impl_Rule_expr.f k a0_0 a0_1 l0_2 l0_3 l0_4 ((rd_T161 l0_3 a1).f4)).bind fun t386=>(if (((⟨#[40]⟩:ByteArray)++(Utf8.encode (wrap32 ((rd_T161 l0_3 a1).f1))))++(⟨#[32]⟩:ByteArray)).size+t386.size≤9223372036854775807 then (if ((((⟨#[40]⟩:ByteArray)++(Utf8.encode (wrap32 ((rd_T161 l0_3 a1).f1))))++(⟨#[32]⟩:ByteArray))++t386).size+1≤9223372036854775807 then ((impl_Rule_expr.f k a0_0 a0_1 l0_2 l0_3 l0_4 ((rd_T161 l0_3 a1).f5)).bind fun t387=>(if (((((⟨#[40]⟩:ByteArray)++(Utf8.encode (wrap32 ((rd_T161 l0_3 a1).f1))))++(⟨#[32]⟩:ByteArray))++t386)++(⟨#[32]⟩:ByteArray)).size+t387.size≤9223372036854775807 then (if ((((((⟨#[40]⟩:ByteArray)++(Utf8.encode (wrap32 ((rd_T161 l0_3 a1).f1))))++(⟨#[32]⟩:ByteArray))++t386)++(⟨#[32]⟩:ByteArray))++t387).size+1≤9223372036854775807 then (some (((((((⟨#[40]⟩:ByteArray)++(Utf8.encode (wrap32 ((rd_T161 l0_3 a1).f1))))++(⟨#[32]⟩:ByteArray))++t386)++(⟨#[32]⟩:ByteArray))++t387)++(⟨#[41]⟩:ByteArray))) else (none)) else (none))) else (none)) else (none))) else (none)) else (none)))) else (none)) else (none))=some r:=h
 clear h;by_cases c3:0≤a1
 case neg=>
  rw [if_neg c3] at H;cases H
 rw [if_pos c3] at H;have c3b0:=ct_ c3;clear c3;by_cases c4:a1<(l0_3.length:Int)
 case neg=>
  rw [if_neg c4] at H;cases H
 rw [if_pos c4] at H;have c4b0:=ct_ c4;clear c4;by_cases c5:((rd_T161 l0_3 a1).f0)=0
 ·rw [if_pos c5] at H;obtain ⟨c5b0,c5b1⟩:=bq_ c5;clear c5;obtain ⟨t385,A6,H⟩:=ob_ H;exact u9e2_0
 ·rw [if_neg c5] at H;obtain ⟨c5b0,c5b1⟩:=bn_ c5;by_cases c13:((rd_T161 l0_3 a1).f0)=1
  ·rw [if_pos c13] at H;obtain ⟨c13b0,c13b1⟩:=bq_ c13;clear c13;by_cases c14:1+((rd_T161 l0_3 a1).f2).size≤9223372036854775807
   case neg=>
    rw [if_neg c14] at H;cases H
   rw [if_pos c14] at H;have c14b0:=eq_true c14;have c14b1:=ct_ c14;try have c14b2:(9223372036854775807<1+((rd_T161 l0_3 a1).f2).size)=False:=eq_false (Nat.not_lt.2 c14)
   exact u9e2_0
  ·rw [if_neg c13] at H;obtain ⟨c13b0,c13b1⟩:=bn_ c13;by_cases c20:1+(Utf8.encode (wrap32 ((rd_T161 l0_3 a1).f1))).size≤9223372036854775807
   case neg=>
    rw [if_neg c20] at H;cases H
   rw [if_pos c20] at H;have c20b0:=eq_true c20;have c20b1:=ct_ c20;try have c20b2:(9223372036854775807<1+(Utf8.encode (wrap32 ((rd_T161 l0_3 a1).f1))).size)=False:=eq_false (Nat.not_lt.2 c20)
   by_cases c21:((⟨#[40]⟩:ByteArray)++(Utf8.encode (wrap32 ((rd_T161 l0_3 a1).f1)))).size+1≤9223372036854775807
   case neg=>
    rw [if_neg c21] at H;cases H
   rw [if_pos c21] at H;have c21b0:=eq_true c21;have c21b1:=ct_ c21;try have c21b2:(9223372036854775807<((⟨#[40]⟩:ByteArray)++(Utf8.encode (wrap32 ((rd_T161 l0_3 a1).f1)))).size+1)=False:=eq_false (Nat.not_lt.2 c21)
   try have c21b3:(9223372036854775807<1+(Utf8.encode (wrap32 ((rd_T161 l0_3 a1).f1))).size+1)=False:=eq_false (by have e0_:((⟨#[40]⟩:ByteArray)++(Utf8.encode (wrap32 ((rd_T161 l0_3 a1).f1)))).size=1+(Utf8.encode (wrap32 ((rd_T161 l0_3 a1).f1))).size:=by { simp only [ByteArray.size_append];first|rfl|omega };omega)
   obtain ⟨t386,A22,H⟩:=ob_ H;by_cases c23:(((⟨#[40]⟩:ByteArray)++(Utf8.encode (wrap32 ((rd_T161 l0_3 a1).f1))))++(⟨#[32]⟩:ByteArray)).size+t386.size≤9223372036854775807
   case neg=>
    rw [if_neg c23] at H;cases H
   rw [if_pos c23] at H;have c23b0:=eq_true c23;have c23b1:=ct_ c23;try have c23b2:(9223372036854775807<(((⟨#[40]⟩:ByteArray)++(Utf8.encode (wrap32 ((rd_T161 l0_3 a1).f1))))++(⟨#[32]⟩:ByteArray)).size+t386.size)=False:=eq_false (Nat.not_lt.2 c23)
   try have c23b3:(9223372036854775807<1+(Utf8.encode (wrap32 ((rd_T161 l0_3 a1).f1))).size+1+t386.size)=False:=eq_false (by have e0_:(((⟨#[40]⟩:ByteArray)++(Utf8.encode (wrap32 ((rd_T161 l0_3 a1).f1))))++(⟨#[32]⟩:ByteArray)).size=1+(Utf8.encode (wrap32 ((rd_T161 l0_3 a1).f1))).size+1:=by { simp only [ByteArray.size_append];first|rfl|omega };omega)
   by_cases c24:((((⟨#[40]⟩:ByteArray)++(Utf8.encode (wrap32 ((rd_T161 l0_3 a1).f1))))++(⟨#[32]⟩:ByteArray))++t386).size+1≤9223372036854775807
   case neg=>
    rw [if_neg c24] at H;cases H
   rw [if_pos c24] at H;have c24b0:=eq_true c24;have c24b1:=ct_ c24;try have c24b2:(9223372036854775807<((((⟨#[40]⟩:ByteArray)++(Utf8.encode (wrap32 ((rd_T161 l0_3 a1).f1))))++(⟨#[32]⟩:ByteArray))++t386).size+1)=False:=eq_false (Nat.not_lt.2 c24)
   try have c24b3:(9223372036854775807<1+(Utf8.encode (wrap32 ((rd_T161 l0_3 a1).f1))).size+1+t386.size+1)=False:=eq_false (by have e0_:((((⟨#[40]⟩:ByteArray)++(Utf8.encode (wrap32 ((rd_T161 l0_3 a1).f1))))++(⟨#[32]⟩:ByteArray))++t386).size=1+(Utf8.encode (wrap32 ((rd_T161 l0_3 a1).f1))).size+1+t386.size:=by { simp only [ByteArray.size_append];first|rfl|omega };omega)
   obtain ⟨t387,A25,H⟩:=ob_ H;by_cases c26:(((((⟨#[40]⟩:ByteArray)++(Utf8.encode (wrap32 ((rd_T161 l0_3 a1).f1))))++(⟨#[32]⟩:ByteArray))++t386)++(⟨#[32]⟩:ByteArray)).size+t387.size≤9223372036854775807
   case neg=>
    rw [if_neg c26] at H;cases H
   rw [if_pos c26] at H;have c26b0:=eq_true c26;have c26b1:=ct_ c26;try have c26b2:(9223372036854775807<(((((⟨#[40]⟩:ByteArray)++(Utf8.encode (wrap32 ((rd_T161 l0_3 a1).f1))))++(⟨#[32]⟩:ByteArray))++t386)++(⟨#[32]⟩:ByteArray)).size+t387.size)=False:=eq_false (Nat.not_lt.2 c26)
   try have c26b3:(9223372036854775807<1+(Utf8.encode (wrap32 ((rd_T161 l0_3 a1).f1))).size+1+t386.size+1+t387.size)=False:=eq_false (by have e0_:(((((⟨#[40]⟩:ByteArray)++(Utf8.encode (wrap32 ((rd_T161 l0_3 a1).f1))))++(⟨#[32]⟩:ByteArray))++t386)++(⟨#[32]⟩:ByteArray)).size=1+(Utf8.encode (wrap32 ((rd_T161 l0_3 a1).f1))).size+1+t386.size+1:=by { simp only [ByteArray.size_append];first|rfl|omega };omega)
   by_cases c27:((((((⟨#[40]⟩:ByteArray)++(Utf8.encode (wrap32 ((rd_T161 l0_3 a1).f1))))++(⟨#[32]⟩:ByteArray))++t386)++(⟨#[32]⟩:ByteArray))++t387).size+1≤9223372036854775807
   case neg=>
    rw [if_neg c27] at H;cases H
   rw [if_pos c27] at H;have c27b0:=eq_true c27;have c27b1:=ct_ c27;try have c27b2:(9223372036854775807<((((((⟨#[40]⟩:ByteArray)++(Utf8.encode (wrap32 ((rd_T161 l0_3 a1).f1))))++(⟨#[32]⟩:ByteArray))++t386)++(⟨#[32]⟩:ByteArray))++t387).size+1)=False:=eq_false (Nat.not_lt.2 c27)
   try have c27b3:(9223372036854775807<1+(Utf8.encode (wrap32 ((rd_T161 l0_3 a1).f1))).size+1+t386.size+1+t387.size+1)=False:=eq_false (by have e0_:((((((⟨#[40]⟩:ByteArray)++(Utf8.encode (wrap32 ((rd_T161 l0_3 a1).f1))))++(⟨#[32]⟩:ByteArray))++t386)++(⟨#[32]⟩:ByteArray))++t387).size=1+(Utf8.encode (wrap32 ((rd_T161 l0_3 a1).f1))).size+1+t386.size+1+t387.size:=by { simp only [ByteArray.size_append];first|rfl|omega };omega)
   obtain rfl:=oi_ H;go_enter Tryz.func90,Tryz.ntmps90;try go_wp2_with (first|((with_reducible refine gate_dst (N:=2) rfl ?_);refine bh_ 2 #[.string a0_0,.int .i64 a0_1,.slice A0_2 l0_2.length c0_2,.slice A0_3 l0_3.length c0_3,.slice A0_4 l0_4.length c0_4] 39 HB ?_;intro gb382 hg w28 BK382 GE382 hb;replace HB:=ms_ HB hb;clear hb hg;replace hz382:=cz5 BK382;have p383:0≤(a1:Int):=md_;have q383:a1<(l0_3.length:Int):=md_;obtain ⟨ad383,e383,hx383_0,hx383_1,hx383_2,hx383_3,hx383_4,hx383_5,hx383_6,hx383_7⟩:=at_T161 HR0_3.out a1 p383 q383;cases e383;replace hx383_0:=mx_ HB hx383_0;replace hx383_1:=mx_ HB hx383_1;replace hx383_2:=mx_ HB hx383_2;replace hx383_3:=mx_ HB hx383_3;replace hx383_4:=mx_ HB hx383_4;replace hx383_5:=mx_ HB hx383_5;replace hx383_6:=mx_ HB hx383_6;replace hx383_7:=mx_ HB hx383_7;replace p383:=eq_true p383;replace q383:=eq_true q383)|((with_reducible refine gate_dst (N:=5) rfl ?_);refine bh_ 5 #[.int .i64 0,.int .u8 0,.string (⟨#[]⟩:ByteArray),.int .i64 0,.int .i64 0,.string (⟨#[]⟩:ByteArray),.int .i64 0,.int .i64 0] 161 HB ?_;intro gb384 hg w30 BK384 GE384 hb;obtain ⟨NB382_384,NB384_382⟩:=mn_ BK382 hg;replace BK382:=mk_ BK382 hb;replace HB:=ms_ HB hb;clear hb hg;have nNB384_382:=NB384_382.out;have nNB382_384:=NB382_384.out;replace hz384:=cz8 BK384))
   have n0_:Aside0 (((((((((w30.setCell ⟨gb384,0,none⟩ (.int .i64 ((rd_T161 l0_3 a1).f0))).setCell ⟨gb384,1,none⟩ (.int .u8 ((rd_T161 l0_3 a1).f1))).setCell ⟨gb384,2,none⟩ (.string ((rd_T161 l0_3 a1).f2))).setCell ⟨gb384,3,none⟩ (.int .i64 ((rd_T161 l0_3 a1).f3.f0))).setCell ⟨gb384,4,none⟩ (.int .i64 ((rd_T161 l0_3 a1).f3.f1))).setCell ⟨gb384,5,none⟩ (.string ((rd_T161 l0_3 a1).f3.f2))).setCell ⟨gb384,6,none⟩ (.int .i64 ((rd_T161 l0_3 a1).f4))).setCell ⟨gb384,7,none⟩ (.int .i64 ((rd_T161 l0_3 a1).f5))).heap[gb382]?=some (.cells #[.string a0_0,.int .i64 a0_1,.slice A0_2 l0_2.length c0_2,.slice (some ad383) l0_3.length c0_3,.slice A0_4 l0_4.length c0_4] 39 (0,0))):=⟨mc_ BK382⟩
   have n1_:Aside0 (((((((((w30.setCell ⟨gb384,0,none⟩ (.int .i64 ((rd_T161 l0_3 a1).f0))).setCell ⟨gb384,1,none⟩ (.int .u8 ((rd_T161 l0_3 a1).f1))).setCell ⟨gb384,2,none⟩ (.string ((rd_T161 l0_3 a1).f2))).setCell ⟨gb384,3,none⟩ (.int .i64 ((rd_T161 l0_3 a1).f3.f0))).setCell ⟨gb384,4,none⟩ (.int .i64 ((rd_T161 l0_3 a1).f3.f1))).setCell ⟨gb384,5,none⟩ (.string ((rd_T161 l0_3 a1).f3.f2))).setCell ⟨gb384,6,none⟩ (.int .i64 ((rd_T161 l0_3 a1).f4))).setCell ⟨gb384,7,none⟩ (.int .i64 ((rd_T161 l0_3 a1).f5))).heap[gb384]?=some (.cells #[.int .i64 ((rd_T161 l0_3 a1).f0),.int .u8 ((rd_T161 l0_3 a1).f1),.string ((rd_T161 l0_3 a1).f2),.int .i64 ((rd_T161 l0_3 a1).f3.f0),.int .i64 ((rd_T161 l0_3 a1).f3.f1),.string ((rd_T161 l0_3 a1).f3.f2),.int .i64 ((rd_T161 l0_3 a1).f4),.int .i64 ((rd_T161 l0_3 a1).f5)] 161 (0,0))):=⟨mp_ BK384⟩
   have n2_:Aside0 (Below w.heap.size w ((((((((w30.setCell ⟨gb384,0,none⟩ (.int .i64 ((rd_T161 l0_3 a1).f0))).setCell ⟨gb384,1,none⟩ (.int .u8 ((rd_T161 l0_3 a1).f1))).setCell ⟨gb384,2,none⟩ (.string ((rd_T161 l0_3 a1).f2))).setCell ⟨gb384,3,none⟩ (.int .i64 ((rd_T161 l0_3 a1).f3.f0))).setCell ⟨gb384,4,none⟩ (.int .i64 ((rd_T161 l0_3 a1).f3.f1))).setCell ⟨gb384,5,none⟩ (.string ((rd_T161 l0_3 a1).f3.f2))).setCell ⟨gb384,6,none⟩ (.int .i64 ((rd_T161 l0_3 a1).f4))).setCell ⟨gb384,7,none⟩ (.int .i64 ((rd_T161 l0_3 a1).f5)))):=⟨mb_ HB⟩
   (try clear BK382);(try clear BK384);(try clear HB);generalize ((((((((w30.setCell ⟨gb384,0,none⟩ (.int .i64 ((rd_T161 l0_3 a1).f0))).setCell ⟨gb384,1,none⟩ (.int .u8 ((rd_T161 l0_3 a1).f1))).setCell ⟨gb384,2,none⟩ (.string ((rd_T161 l0_3 a1).f2))).setCell ⟨gb384,3,none⟩ (.int .i64 ((rd_T161 l0_3 a1).f3.f0))).setCell ⟨gb384,4,none⟩ (.int .i64 ((rd_T161 l0_3 a1).f3.f1))).setCell ⟨gb384,5,none⟩ (.string ((rd_T161 l0_3 a1).f3.f2))).setCell ⟨gb384,6,none⟩ (.int .i64 ((rd_T161 l0_3 a1).f4))).setCell ⟨gb384,7,none⟩ (.int .i64 ((rd_T161 l0_3 a1).f5)))=w33 at n0_ n1_ n2_ ⊢;have BK382:=n0_;have BK384:=n1_;have HB:=n2_;clear n0_ n1_ n2_;replace BK382:=a_ (blk_drew BK382.out);replace BK384:=a_ (blk_drew BK384.out);replace HB:=a_ (below_drew1 HB.out);refine start_ (n:=19) (S:=fun w'=>w'.cell? ⟨gb384,0,none⟩=some (.int .i64 ((rd_T161 l0_3 a1).f0))∧w'.cell? ⟨gb384,1,none⟩=some (.int .u8 ((rd_T161 l0_3 a1).f1))∧w'.cell? ⟨gb384,2,none⟩=some (.string ((rd_T161 l0_3 a1).f2))∧w'.cell? ⟨gb384,3,none⟩=some (.int .i64 ((rd_T161 l0_3 a1).f3.f0))∧w'.cell? ⟨gb384,4,none⟩=some (.int .i64 ((rd_T161 l0_3 a1).f3.f1))∧w'.cell? ⟨gb384,5,none⟩=some (.string ((rd_T161 l0_3 a1).f3.f2))∧w'.cell? ⟨gb384,6,none⟩=some (.int .i64 ((rd_T161 l0_3 a1).f4))∧w'.cell? ⟨gb384,7,none⟩=some (.int .i64 ((rd_T161 l0_3 a1).f5))∧w'.cell? ⟨gb382,0,none⟩=some (.string a0_0)∧w'.cell? ⟨gb382,1,none⟩=some (.int .i64 a0_1)∧w'.cell? ⟨gb382,2,none⟩=some (.slice A0_2 l0_2.length c0_2)∧w'.cell? ⟨gb382,3,none⟩=some (.slice (some ad383) l0_3.length c0_3)∧w'.cell? ⟨gb382,4,none⟩=some (.slice A0_4 l0_4.length c0_4)) (ds:=[]) b9e2_0 (by kernel_rfl) rfl rfl ⟨bk_ BK384 0,bk_ BK384 1,bk_ BK384 2,bk_ BK384 3,bk_ BK384 4,bk_ BK384 5,bk_ BK384 6,bk_ BK384 7,bk_ BK382 0,bk_ BK382 1,bk_ BK382 2,bk_ BK382 3,bk_ BK382 4⟩ (fun hHeld=>?_);refine with_tabW impl_Rule_expr.tab3 impl_Rule_expr.bits3 (fun HT_ HW_=>?_);generalize w33.drew=w34 at BK382 BK384 HB hHeld ⊢;refine pu_ 0 13 b9e2_1 (any_of HT_.out (by kernel_rfl)) ?_;refine pu_ 7 20 b9e2_2 (any_of HT_.out (by kernel_rfl)) ?_;refine pu_ 13 26 b9e2_3 (any_of HT_.out (by kernel_rfl)) ?_;refine tk_ 1 14 b9e2_4 (take_ofW HT_.out HW_.out (by kernel_rfl)) hHeld ?_;refine pu_ 2 15 b9e2_5 (any_of HT_.out (by kernel_rfl)) ?_
   refine pu_ 3 16 b9e2_6 (any_of HT_.out (by kernel_rfl)) ?_;refine pu_ 4 17 b9e2_7 (any_of HT_.out (by kernel_rfl)) ?_;refine pu_ 5 18 b9e2_8 (any_of HT_.out (by kernel_rfl)) ?_;refine tk_ 6 19 b9e2_9 (take_ofW HT_.out HW_.out (by kernel_rfl)) hHeld ?_;refine tk_ 8 21 b9e2_10 (take_ofW HT_.out HW_.out (by kernel_rfl)) hHeld ?_;refine tk_ 12 25 b9e2_11 (take_ofW HT_.out HW_.out (by kernel_rfl)) hHeld ?_;refine tk_ 14 27 b9e2_12 (take_ofW HT_.out HW_.out (by kernel_rfl)) hHeld ?_;refine one_ (i:=9) (N:=some 22) b9e2_13 rfl rfl (one_of HT_.out (by kernel_rfl)) (by decide) (fun K hK=>?_);refine goes_ Tryz.func90 (by kernel_rfl) rfl #[.agg #[.string a0_0,.int .i64 a0_1,.slice A0_2 l0_2.length c0_2,.slice (some ad383) l0_3.length c0_3,.slice A0_4 l0_4.length c0_4],.int .i64 ((rd_T161 l0_3 a1).f4)] (by rfl) rfl rfl mw_ ?_;with_reducible refine (ih k (by omega) a0_0 a0_1 _ _ l0_2 _ _ l0_3 _ _ l0_4 ((rd_T161 l0_3 a1).f4) t386 _ ?side1 ?side2 ?side3 ?side4 ?side5 ?side6 A22.out).mono ?_
   (case side1=>exact mt_ HR0_2 HB)
   (case side2=>exact HC0_2.out)
   (case side3=>exact mt_ HR0_3 HB)
   (case side4=>exact HC0_3.out)
   (case side5=>exact mt_ HR0_4 HB)
   (case side6=>exact HC0_4.out)
   rintro e w35 ⟨rfl,hb⟩;refine ⟨_,rfl,?_⟩;replace BK382:=mk_ BK382 hb;replace BK384:=mk_ BK384 hb;replace HB:=ms_ HB hb;(try clear hb);(try clear hb2);(try clear hk);(try clear hi);refine hK.out _ _ ⟨bk_ BK384 0,bk_ BK384 1,bk_ BK384 2,bk_ BK384 3,bk_ BK384 4,bk_ BK384 5,bk_ BK384 6,bk_ BK384 7,bk_ BK382 0,bk_ BK382 1,bk_ BK382 2,bk_ BK382 3,bk_ BK382 4⟩ (fun hHeld=>?_);clear hK K;refine nm_ 22 ?_;refine pu_ 10 23 b9e2_14 (any_of HT_.out (by kernel_rfl)) ?_;refine pu_ 11 24 b9e2_15 (any_of HT_.out (by kernel_rfl)) ?_;refine one_ (i:=15) (N:=some 28) b9e2_16 rfl rfl (one_of HT_.out (by kernel_rfl)) (by decide) (fun K hK=>?_);refine goes_ Tryz.func90 (by kernel_rfl) rfl #[.agg #[.string a0_0,.int .i64 a0_1,.slice A0_2 l0_2.length c0_2,.slice (some ad383) l0_3.length c0_3,.slice A0_4 l0_4.length c0_4],.int .i64 ((rd_T161 l0_3 a1).f5)] (by rfl) rfl rfl mw_ ?_;with_reducible refine (ih k (by omega) a0_0 a0_1 _ _ l0_2 _ _ l0_3 _ _ l0_4 ((rd_T161 l0_3 a1).f5) t387 _ ?side1 ?side2 ?side3 ?side4 ?side5 ?side6 A25.out).mono ?_
   (case side1=>exact mt_ HR0_2 HB)
   (case side2=>exact HC0_2.out)
   (case side3=>exact mt_ HR0_3 HB)
   (case side4=>exact HC0_3.out)
   (case side5=>exact mt_ HR0_4 HB)
   (case side6=>exact HC0_4.out)
   rintro e w36 ⟨rfl,hb⟩;refine ⟨_,rfl,?_⟩;replace BK382:=mk_ BK382 hb;replace BK384:=mk_ BK384 hb;replace HB:=ms_ HB hb;(try clear hb);(try clear hb2);(try clear hk);(try clear hi);refine hK.out _ _ ⟨bk_ BK384 0,bk_ BK384 1,bk_ BK384 2,bk_ BK384 3,bk_ BK384 4,bk_ BK384 5,bk_ BK384 6,bk_ BK384 7,bk_ BK382 0,bk_ BK382 1,bk_ BK382 2,bk_ BK382 3,bk_ BK382 4⟩ (fun hHeld=>?_);clear hK K;refine nm_ 28 ?_;refine pu_ 16 29 b9e2_17 (any_of HT_.out (by kernel_rfl)) ?_;refine pu_ 17 30 b9e2_18 (any_of HT_.out (by kernel_rfl)) ?_;refine pu_ 18 4 b9e2_19 (any_of HT_.out (by kernel_rfl)) ?_;refine done_ (done_of HT_.out (by kernel_rfl)) ?_;try go_wp2
   go_ret;exact ⟨me_,mb_ HB⟩
end Go.Proofs.YtahambloheoebaaGreatDoor.P
namespace Go.Proofs.YtahambloheoebaaGreatDoor.P
open Go.Proofs.YtahambloheoebaaGreatDoorX
open Go.RowKit Go.Proofs.YtahambloheoebaaGreatDoorW.PrintWords Go.Proofs.YtahambloheoebaaGreatDoorW.PrintLast Go.Proofs.YtahambloheoebaaGreatDoorW.PrintMore
attribute [local go_sem] max2_int min2_int max_two min_two max_three min_three max_four min_four
set_option linter.unusedVariables false
set_option linter.unusedSimpArgs false
open Go.Proofs.YtahambloheoebaaGreatDoorX
theorem rl_R {w:World} {g base lo:Nat} (xs:List ByteArray) (h:w.heap[g]?=some (.cells (xs.map Value.string).toArray 9 (0,0))) (hb:base≤g) (hl:lo≤g) (hn:xs.length≤maxLen):Kd.string.R 9 w base (fun k=>lo≤k) (.slice (some ⟨g,0,none⟩) xs.length xs.length) xs:=by
 refine Kd.R_of_own (h1:=fun _=>rfl) ⟨by simp [encs],.inr ⟨g,xs.length,_,rfl,hb,h,Nat.le_refl _,hn,by simp,?_⟩⟩ ?_
 ·simp [encs,List.take_of_length_le]
 ·intro k hk;have:g=k:=by simpa [Value.ownBlock] using hk
  omega
theorem five0 (w:World) (o1 o2 o3 o4 o5:Obj):(((((w.alloc o1).alloc o2).alloc o3).alloc o4).alloc o5).heap[w.heap.size]?=some o1:=blk_alloc (blk_alloc (blk_alloc (blk_alloc (blk_new w o1) o2) o3) o4) o5
theorem five1 (w:World) (o1 o2 o3 o4 o5:Obj):(((((w.alloc o1).alloc o2).alloc o3).alloc o4).alloc o5).heap[w.heap.size+1]?=some o2:=by have h:=blk_alloc (blk_alloc (blk_alloc (blk_new (w.alloc o1) o2) o3) o4) o5;simpa using h
theorem five2 (w:World) (o1 o2 o3 o4 o5:Obj):(((((w.alloc o1).alloc o2).alloc o3).alloc o4).alloc o5).heap[w.heap.size+1+1]?=some o3:=by have h:=blk_alloc (blk_alloc (blk_new ((w.alloc o1).alloc o2) o3) o4) o5;simpa using h
theorem five3 (w:World) (o1 o2 o3 o4 o5:Obj):(((((w.alloc o1).alloc o2).alloc o3).alloc o4).alloc o5).heap[w.heap.size+1+1+1]?=some o4:=by have h:=blk_alloc (blk_new (((w.alloc o1).alloc o2).alloc o3) o4) o5;simpa using h
def rowT (k K:Int) (cls:ByteArray):List ByteArray:=if k=1 then [⟨#[97,100,100]⟩,cls] else if k=2 then [⟨#[100,114,111,112]⟩,itoaB K] else if k=3 then [⟨#[109,111,100]⟩,itoaB K] else [⟨#[104,97,108,116]⟩]
def impl_Rule_act.l0:Nat→List ByteArray→List Int→Int→Int→ByteArray→Int→List (S42)→List (S161)→List (S98)→Option (ByteArray)
 | 0,_,_,_,_,_,_,_,_,_=>none
 | k+1,x6,x26,x27,x28,x401000,x401001,x401002,x401003,x401004=>if x28<x27 then (if 0≤x28 then (if x28<(x26.length:Int) then ((impl_Rule_expr.f k x401000 x401001 x401002 x401003 x401004 (rd x26 x28)).bind fun t407=>(if x6.length<8796093022208 then (impl_Rule_act.l0 k (x6++[t407]) x26 x27 (wrap64 (x28+1)) x401000 x401001 x401002 x401003 x401004) else (none))) else (none)) else (none)) else ((strings_Join.f x6 (⟨#[32]⟩:ByteArray)).bind fun t411=>(if 1+t411.size≤9223372036854775807 then (if ((⟨#[40]⟩:ByteArray)++t411).size+1≤9223372036854775807 then (some (((⟨#[40]⟩:ByteArray)++t411)++(⟨#[41]⟩:ByteArray))) else (none)) else (none)))
def impl_Rule_act.f (k:Nat) (a0_0:ByteArray) (a0_1:Int) (l0_2:List (S42)) (l0_3:List (S161)) (l0_4:List (S98)) (a1_0:Int) (a1_1:Int) (a1_2:ByteArray) (l1_3:List Int):Option (ByteArray):=if (I64 a1_1∧(a1_0=1∨a1_0=2∨a1_0=3∨a1_0=4)) then (impl_Rule_act.l0 k (rowT a1_0 a1_1 a1_2) l1_3 (l1_3.length:Int) 0 a0_0 a0_1 l0_2 l0_3 l0_4) else none
theorem impl_Rule_act.mono_l:∀k,(∀y0 y1 y2 y3 y4 y5 y6 y7 y8,LeO (impl_Rule_act.l0 k y0 y1 y2 y3 y4 y5 y6 y7 y8) (impl_Rule_act.l0 (k+1) y0 y1 y2 y3 y4 y5 y6 y7 y8))
 | 0=>fun _ _ _ _ _ _ _ _ _ r h=>by simp [impl_Rule_act.l0] at h
 | k+1=>by
  have ih0:=impl_Rule_act.mono_l k
  ·intro y0 y1 y2 y3 y4 y5 y6 y7 y8;unfold impl_Rule_act.l0
   repeat' with_reducible first|apply ih0|apply impl_Rule_expr.mono|apply LeO.refl|apply LeO.none|refine LeO.ite ?_ ?_|refine LeO.bind ?_ (fun _=>?_)
theorem impl_Rule_act.mono:∀a0 a1 a2 a3 a4 a5 a6 a7 a8 k,LeO (impl_Rule_act.f k a0 a1 a2 a3 a4 a5 a6 a7 a8) (impl_Rule_act.f (k+1) a0 a1 a2 a3 a4 a5 a6 a7 a8):=by
 intro a0 a1 a2 a3 a4 a5 a6 a7 a8 k;have ih0:=impl_Rule_act.mono_l k;unfold impl_Rule_act.f
 repeat' with_reducible first|apply ih0|apply impl_Rule_expr.mono|apply LeO.refl|apply LeO.none|refine LeO.ite ?_ ?_|refine LeO.bind ?_ (fun _=>?_)
set_option maxHeartbeats 8000000 in
set_option maxRecDepth 100000 in
theorem impl_Rule_act.calls (k:Nat) (a0_0:ByteArray) (a0_1:Int) (A0_2:Option Addr) (c0_2:Nat) (l0_2:List (S42)) (A0_3:Option Addr) (c0_3:Nat) (l0_3:List (S161)) (A0_4:Option Addr) (c0_4:Nat) (l0_4:List (S98)) (a1_0:Int) (a1_1:Int) (a1_2:ByteArray) (A1_3:Option Addr) (c1_3:Nat) (l1_3:List Int) (r:ByteArray) (w:World) (hr0_2:Kd.C k42 w A0_2 l0_2.length l0_2) (hc0_2:l0_2.length≤c0_2) (hr0_3:Kd.C k161 w A0_3 l0_3.length l0_3) (hc0_3:l0_3.length≤c0_3) (hr0_4:Kd.C k98 w A0_4 l0_4.length l0_4) (hc0_4:l0_4.length≤c0_4) (hr1_3:Kd.C (Kd.int .i64) w A1_3 l1_3.length l1_3) (hc1_3:l1_3.length≤c1_3) (h:impl_Rule_act.f k a0_0 a0_1 l0_2 l0_3 l0_4 a1_0 a1_1 a1_2 l1_3=some r) (htb_:Go.Proofs.YtahambloheoebaaGreatDoorX.TB w:=by first|assumption|(with_reducible refine Go.Proofs.YtahambloheoebaaGreatDoorX.TB.below (Aside0.out HTB) ?_;repeat (first|(with_reducible first|exact HB.out|apply below_alloc|apply pw_below_drewN|apply below_drew1)|exact HB.out|refine below_set ?_ (Aside0.out (by assumption))))|(with_reducible refine Go.Proofs.YtahambloheoebaaGreatDoorX.TBS.TB (Aside0.out HTB) ?_;repeat (first|(with_reducible first|exact HB.out|apply below_alloc|apply pw_below_drewN|apply below_drew1)|exact HB.out|refine below_set ?_ (Aside0.out (by assumption))))):
  Calls Tryz.prog 45 #[.agg #[.string a0_0,.int .i64 a0_1,.slice A0_2 l0_2.length c0_2,.slice A0_3 l0_3.length c0_3,.slice A0_4 l0_4.length c0_4],.agg #[.int .i64 a1_0,.int .i64 a1_1,.string a1_2,.slice A1_3 l1_3.length c1_3]] w fun e w'=>e=.returned (.string r)∧Below w.heap.size w w':=by
 have HTB:=a_ htb_;clear htb_;have hu39:=Tryz.underlying39;have hu98:=Tryz.underlying98;have HR0_2:=a_ hr0_2;have HC0_2:=a_ hc0_2;clear hr0_2 hc0_2;have HR0_3:=a_ hr0_3;have HC0_3:=a_ hc0_3;clear hr0_3 hc0_3;have HR0_4:=a_ hr0_4;have HC0_4:=a_ hc0_4;clear hr0_4 hc0_4;have HR1_3:=a_ hr1_3;have HC1_3:=a_ hc1_3;clear hr1_3 hc1_3;have HB:=a_ (Below.refl w.heap.size w);unfold impl_Rule_act.f at h
 split at h
 case isFalse=>cases h
 case isTrue hv=>
 obtain ⟨hK,hk⟩:=hv;have hK':strconv_Itoa.f a1_1=some (itoaB a1_1):=by unfold strconv_Itoa.f;rw [if_pos hK]
 have HI:=a_ hK';have HH:=a_ h;clear hK hK' h;go_enter Tryz.func45,Tryz.ntmps45;go_upto_region 2 with (go_at_call 65;(refine (strconv_Itoa.calls a1_1 _ _ HI.out (by refine Go.Proofs.YtahambloheoebaaGreatDoorX.TB.below HTB.out ?_;repeat (first|exact HB.out|apply below_alloc))).mono ?_;rintro e w1 ⟨rfl,hd⟩;have hs:w.heap.size+2≤w1.heap.size:=(by have h_:=hd.size;simp at h_;omega);have BR:Aside0 (w1.heap[w.heap.size]?=some (.cells #[.string a0_0,.int .i64 a0_1,.slice A0_2 l0_2.length c0_2,.slice A0_3 l0_3.length c0_3,.slice A0_4 l0_4.length c0_4] 39 (0,0))):=a_ (blk_below (blk_alloc (blk_new w _) _) hd);have BA:Aside0 (w1.heap[w.heap.size+1]?=some (.cells #[.int .i64 a1_0,.int .i64 a1_1,.string a1_2,.slice A1_3 l1_3.length c1_3] 98 (0,0))):=⟨by have h_:=blk_below (blk_new (w.alloc _) _) hd;simpa using h_⟩;have HB1:=a_ (below_step (by repeat (first|exact HB.out|apply below_alloc)) hd);clear hd));have hz0:∀o1 o2 o3 o4 o5,(((((w1.alloc o1).alloc o2).alloc o3).alloc o4).alloc o5).cell? ⟨w.heap.size+1,0,none⟩=some (.int .i64 a1_0):=fun o1 o2 o3 o4 o5=>(blk_cell (blk_alloc (blk_alloc (blk_alloc (blk_alloc (blk_alloc BA.out o1) o2) o3) o4) o5) 0).trans rfl
 have hz2:w1.cell? ⟨w.heap.size+1,2,none⟩=some (.string a1_2):=(blk_cell BA.out 2).trans rfl
 go_cut [6] (fun v6 wc=>∃rows:List ByteArray,rows=rowT a1_0 a1_1 a1_2∧Aside0 (Kd.string.R 9 wc w.heap.size (fun k=>w1.heap.size≤k) v6 rows)∧Aside0 (wc.heap[w.heap.size]?=some (.cells #[.string a0_0,.int .i64 a0_1,.slice A0_2 l0_2.length c0_2,.slice A0_3 l0_3.length c0_3,.slice A0_4 l0_4.length c0_4] 39 (0,0)))∧Aside0 (wc.heap[w.heap.size+1]?=some (.cells #[.int .i64 a1_0,.int .i64 a1_1,.string a1_2,.slice A1_3 l1_3.length c1_3] 98 (0,0)))∧Aside0 (Below w.heap.size w wc))
 case first=>
  rcases hk with h|h|h|h<;>subst h<;>go_wp2<;>go_meet
  ·exact ⟨[⟨#[97,100,100]⟩,a1_2],rfl,a_ (rl_R [⟨#[97,100,100]⟩,a1_2] (five0 w1 _ _ _ _ _) (by omega) (by omega) (by simp [maxLen])),a_ (blk_alloc (blk_alloc (blk_alloc (blk_alloc (blk_alloc BR.out _) _) _) _) _),a_ (blk_alloc (blk_alloc (blk_alloc (blk_alloc (blk_alloc BA.out _) _) _) _) _),⟨by repeat (first|exact HB1.out|apply below_alloc)⟩⟩
  ·exact ⟨[⟨#[100,114,111,112]⟩,itoaB a1_1],rfl,a_ (rl_R [⟨#[100,114,111,112]⟩,itoaB a1_1] (five1 w1 _ _ _ _ _) (by omega) (by omega) (by simp [maxLen])),a_ (blk_alloc (blk_alloc (blk_alloc (blk_alloc (blk_alloc BR.out _) _) _) _) _),a_ (blk_alloc (blk_alloc (blk_alloc (blk_alloc (blk_alloc BA.out _) _) _) _) _),⟨by repeat (first|exact HB1.out|apply below_alloc)⟩⟩
  ·exact ⟨[⟨#[109,111,100]⟩,itoaB a1_1],rfl,a_ (rl_R [⟨#[109,111,100]⟩,itoaB a1_1] (five2 w1 _ _ _ _ _) (by omega) (by omega) (by simp [maxLen])),a_ (blk_alloc (blk_alloc (blk_alloc (blk_alloc (blk_alloc BR.out _) _) _) _) _),a_ (blk_alloc (blk_alloc (blk_alloc (blk_alloc (blk_alloc BA.out _) _) _) _) _),⟨by repeat (first|exact HB1.out|apply below_alloc)⟩⟩
  ·exact ⟨[⟨#[104,97,108,116]⟩],rfl,a_ (rl_R [⟨#[104,97,108,116]⟩] (five3 w1 _ _ _ _ _) (by omega) (by omega) (by simp [maxLen])),a_ (blk_alloc (blk_alloc (blk_alloc (blk_alloc (blk_alloc BR.out _) _) _) _) _),a_ (blk_alloc (blk_alloc (blk_alloc (blk_alloc (blk_alloc BA.out _) _) _) _) _),⟨by repeat (first|exact HB1.out|apply below_alloc)⟩⟩
 obtain ⟨y403,hy_,HO0,BK400,BK401,HBn⟩:=hcut;clear HB;have HB:=HBn;clear HBn;have H':Aside0 (impl_Rule_act.l0 k y403 l1_3 (l1_3.length:Int) 0 a0_0 a0_1 l0_2 l0_3 l0_4=some r):=⟨by rw [hy_];exact HH.out⟩
 have HO405:=a_ (Kd.R_mono (ok':=fun _=>True) HO0.out (fun _ _=>trivial));clear HO0 hy_ HH HI HB1 BR BA hz0 hz2 hs hk;have GE400:=a_ (show w.heap.size≤w.heap.size from Nat.le_refl _);have GE401:=a_ (show w.heap.size≤w.heap.size+1 from Nat.le_succ _);have NB400_401:=a_ (show w.heap.size≠w.heap.size+1 by omega);have NB401_400:=a_ (show w.heap.size+1≠w.heap.size by omega);have hz_0:wc.cell? ⟨w.heap.size+1,0,none⟩=some (.int .i64 a1_0):=(blk_cell BK401.out 0).trans rfl
 have hz_1:wc.cell? ⟨w.heap.size+1,1,none⟩=some (.int .i64 a1_1):=(blk_cell BK401.out 1).trans rfl
 have hz_2:wc.cell? ⟨w.heap.size+1,2,none⟩=some (.string a1_2):=(blk_cell BK401.out 2).trans rfl
 have hz_3:wc.cell? ⟨w.heap.size+1,3,none⟩=some (.slice A1_3 l1_3.length c1_3):=(blk_cell BK401.out 3).trans rfl
 go_wp2;go_loopg [6,28] k (fun kq v6 v28 w'=>∃(x6_1:List ByteArray) (x28_1:Int),v28=.int .i64 x28_1∧Aside0 (impl_Rule_act.l0 kq x6_1 l1_3 (l1_3.length:Int) x28_1 a0_0 a0_1 l0_2 l0_3 l0_4=some r)∧Aside0 (kq≤k)∧Aside0 (Kd.R Kd.string 9 w' w.heap.size (fun _=>True) v6 x6_1)∧Aside0 (w'.heap[w.heap.size]?=some (.cells #[.string a0_0,.int .i64 a0_1,(.slice A0_2 l0_2.length c0_2),(.slice A0_3 l0_3.length c0_3),(.slice A0_4 l0_4.length c0_4)] 39 (0,0)))∧Aside0 (w'.heap[(w.heap.size+1)]?=some (.cells #[.int .i64 a1_0,.int .i64 a1_1,.string a1_2,(.slice A1_3 l1_3.length c1_3)] 98 (0,0)))∧Aside0 (Below w.heap.size w w'))
 case atStart=>exact ⟨(y403),(0),mq_,H',⟨Nat.le_refl _⟩,⟨mo_ HO405.out⟩,⟨mc_ BK400⟩,⟨mc_ BK401⟩,⟨mb_ HB⟩⟩
 clear H';try clear hz_0;try clear hz_1;try clear hz_2;try clear hz_3;obtain ⟨x6_1,x28_1,rfl,HA,HK1,HO_6,BK400,BK401,HB⟩:=hrel;obtain _|k1:=gk
 ·exact absurd HA.out (by simp [impl_Rule_act.l0])
 have H:=HA.out;clear HA;simp only [impl_Rule_act.l0] at H;by_cases c13:x28_1<(l1_3.length:Int)
 ·rw [if_pos c13] at H;have c13b0:=ct_ c13;clear c13;by_cases c14:0≤x28_1
  case neg=>
   rw [if_neg c14] at H;cases H
  rw [if_pos c14] at H;have c14b0:=ct_ c14;clear c14;by_cases c15:x28_1<(l1_3.length:Int)
  case neg=>
   rw [if_neg c15] at H;cases H
  rw [if_pos c15] at H;have c15b0:=ct_ c15;clear c15;obtain ⟨t407,A16,H⟩:=ob_ H;by_cases c17:x6_1.length<8796093022208
  case neg=>
   rw [if_neg c17] at H;cases H
  rw [if_pos c17] at H;have LMc17:=a_ c17;clear c17;obtain ⟨y408,hy408⟩:∃y_:List ByteArray,y_=(x6_1++[t407]):=⟨_,rfl⟩;rw [←hy408] at H;(try rw [Option.bind_some] at H);have Ny408:=a_ hy408;clear hy408;have H':=a_ H;clear H;have p406:0≤(x28_1:Int):=md_
  have q406:x28_1<(l1_3.length:Int):=md_
  obtain ⟨ad406,e406,hx406_0⟩:=Kd.at_int HR1_3.out x28_1 p406 q406;cases e406;replace hx406_0:=mx_ HB hx406_0;replace p406:=eq_true p406;replace q406:=eq_true q406;have nNB400_401:=NB400_401.out;have nNB401_400:=NB401_400.out;have z19_0:wr.cell? ⟨w.heap.size,0,none⟩=some (.string a0_0):=(blk_cell BK400.out 0).trans rfl
  have z19_1:wr.cell? ⟨w.heap.size,1,none⟩=some (.int .i64 a0_1):=(blk_cell BK400.out 1).trans rfl
  have z19_2:wr.cell? ⟨w.heap.size,2,none⟩=some (.slice A0_2 l0_2.length c0_2):=(blk_cell BK400.out 2).trans rfl
  have z19_3:wr.cell? ⟨w.heap.size,3,none⟩=some (.slice A0_3 l0_3.length c0_3):=(blk_cell BK400.out 3).trans rfl
  have z19_4:wr.cell? ⟨w.heap.size,4,none⟩=some (.slice A0_4 l0_4.length c0_4):=(blk_cell BK400.out 4).trans rfl
  have zf19_0:=blk_frozen BK400.out 0;have zf19_1:=blk_frozen BK400.out 1;have zf19_2:=blk_frozen BK400.out 2;have zf19_3:=blk_frozen BK400.out 3;have zf19_4:=blk_frozen BK400.out 4;go_wp2_with (first|((with_reducible refine gate_callee (f:=90) rfl ?_);refine goesL_ (some 35) rfl rfl Tryz.func90 (by kernel_rfl) rfl #[.agg #[.string a0_0,.int .i64 a0_1,.slice A0_2 l0_2.length c0_2,.slice A0_3 l0_3.length c0_3,.slice A0_4 l0_4.length c0_4],.int .i64 (rd l1_3 x28_1)] rfl mw_ ?_;(with_reducible refine (impl_Rule_expr.calls k1 a0_0 a0_1 _ _ l0_2 _ _ l0_3 _ _ l0_4 (rd l1_3 x28_1) t407 _ ?side1 HC0_2.out ?side3 HC0_3.out ?side5 HC0_4.out A16.out).mono ?_);(case side1=>exact mt_ HR0_2 HB);(case side3=>exact mt_ HR0_3 HB);(case side5=>exact mt_ HR0_4 HB);rintro e wx ⟨rfl,hb⟩;refine ⟨_,rfl,?_⟩;replace HO_6:=ro_ HO_6 hb;replace BK400:=a_ (blk_below (g:=w.heap.size) (o:=.cells #[.string a0_0,.int .i64 a0_1,.slice A0_2 l0_2.length c0_2,.slice A0_3 l0_3.length c0_3,.slice A0_4 l0_4.length c0_4] 39 (0,0)) (mc_ BK400) hb);replace BK401:=a_ (blk_below (g:=(w.heap.size+1)) (o:=.cells #[.int .i64 a1_0,.int .i64 a1_1,.string a1_2,.slice (some ad406) l1_3.length c1_3] 98 (0,0)) (mc_ BK401) hb);replace HB:=ms_ HB hb;(try clear hb))|((with_reducible refine gate_builtin (b:=.append) (xs:=#[.tmp 32,.tmp 36]) rfl ?_);at_builtin;refine Kd.R_append Kd.string (w0:=w) w.heap.size rfl (.tmp 32) (.tmp 36) 147 9 (.string ⟨#[]⟩) 16 rfl Tryz.underlying147 info9 rfl (by decide) (by omega) u6 x6_1 t407 [.string t407] (fun _=>True) (fun _=>False) rfl rfl ?aP (fun _ hk=>hk.elim) ?aF ?aO ?aB ?aS ?aL ?_;(case aP=>exact rfl);(case aB=>exact (mb_ HB));(case aF=>exact (fun _ _=>trivial));(case aO=>exact (mo_ HO_6.out));(case aS=>exact (below_size (mb_ HB)));(case aL=>have:=LMc17.out;omega);intro v409 wx ho hb hg hat;rw [←Ny408.out] at ho;have HO410:=a_ (ho);replace BK400:=a_ (blk_grown (g:=w.heap.size) (o:=.cells #[.string a0_0,.int .i64 a0_1,.slice A0_2 l0_2.length c0_2,.slice A0_3 l0_3.length c0_3,.slice A0_4 l0_4.length c0_4] 39 (0,0)) (mc_ BK400) hg (Kd.R_ne HO_6.out BK400.out (by decide)));replace BK401:=a_ (blk_grown (g:=(w.heap.size+1)) (o:=.cells #[.int .i64 a1_0,.int .i64 a1_1,.string a1_2,.slice (some ad406) l1_3.length c1_3] 98 (0,0)) (mc_ BK401) hg (Kd.R_ne HO_6.out BK401.out (by decide)));replace HB:=a_ (hb);clear HO_6;clear ho hb hg hat));go_roundg k1
  case measure=>
   have:=HK1.out
   omega
  case rel=>exact ⟨(y408),(wrap64 (x28_1+1)),mq_,H',⟨by have:=HK1.out;omega⟩,⟨mo_ HO410.out⟩,⟨mc_ BK400⟩,⟨mc_ BK401⟩,⟨mb_ HB⟩⟩
 ·rw [if_neg c13] at H;have c13b0:=cf_ c13;clear c13;obtain ⟨t411,A22,H⟩:=ob_ H;by_cases c23:1+t411.size≤9223372036854775807
  case neg=>
   rw [if_neg c23] at H;cases H
  rw [if_pos c23] at H;have c23b0:=eq_true c23;have c23b1:=ct_ c23;try have c23b2:(9223372036854775807<1+t411.size)=False:=eq_false (Nat.not_lt.2 c23)
  by_cases c24:((⟨#[40]⟩:ByteArray)++t411).size+1≤9223372036854775807
  case neg=>
   rw [if_neg c24] at H;cases H
  rw [if_pos c24] at H;have c24b0:=eq_true c24;have c24b1:=ct_ c24;try have c24b2:(9223372036854775807<((⟨#[40]⟩:ByteArray)++t411).size+1)=False:=eq_false (Nat.not_lt.2 c24)
  try have c24b3:(9223372036854775807<1+t411.size+1)=False:=eq_false (by have e_:((⟨#[40]⟩:ByteArray)++t411).size=1+t411.size:=by { simp only [ByteArray.size_append];rfl };omega)
  obtain rfl:=oi_ H;obtain ⟨Ao25,co25,eo25⟩:=Kd.R_slice HO_6.out;subst eo25;go_wp2_with (first|((with_reducible refine gate_callee (f:=89) rfl ?_);refine goesL_ (some 40) rfl rfl Tryz.func89 (by kernel_rfl) rfl #[.slice Ao25 x6_1.length co25,.string (⟨#[32]⟩:ByteArray)] rfl mw_ ?_;(with_reducible refine (strings_Join.calls _ _ x6_1 (⟨#[32]⟩:ByteArray) t411 _ ?side1 ?side2 A22.out).mono ?_);(case side1=>repeat (first|exact (Kd.R_reads' HO_6.out).2.2|(with_reducible refine Kd.C_alloc ?_ _)|(with_reducible refine Kd.C_drewN ?_ _)|(with_reducible refine Kd.C_drew ?_)));(case side2=>exact (Kd.R_reads' HO_6.out).2.1);rintro e wx ⟨rfl,hb⟩;refine ⟨_,rfl,?_⟩;replace HO_6:=ro_ HO_6 hb;replace BK400:=a_ (blk_below (g:=w.heap.size) (o:=.cells #[.string a0_0,.int .i64 a0_1,.slice A0_2 l0_2.length c0_2,.slice A0_3 l0_3.length c0_3,.slice A0_4 l0_4.length c0_4] 39 (0,0)) (mc_ BK400) hb);replace BK401:=a_ (blk_below (g:=(w.heap.size+1)) (o:=.cells #[.int .i64 a1_0,.int .i64 a1_1,.string a1_2,.slice A1_3 l1_3.length c1_3] 98 (0,0)) (mc_ BK401) hb);replace HB:=ms_ HB hb;(try clear hb)));go_ret;exact ⟨me_,mb_ HB⟩
end Go.Proofs.YtahambloheoebaaGreatDoor.P
namespace Go.Proofs.YtahambloheoebaaGreatDoorX
open Go.RowKit Go.Proofs.YtahambloheoebaaGreatDoorW.PrintWords
set_option linter.unusedVariables false
set_option linter.unusedSimpArgs false
def Bld (w:World) (b:Nat) (t:ByteArray):Prop:=Lib.IsBuilderF 103 5 b b (Lib.byteCells t.data.toList) w
theorem Bld.grown {w w':World} {b:Nat} {t:ByteArray} (h:Bld w b t) (hb:Below w.heap.size w w'):Bld w' b t:=by
 have key:∀p,Lib.BuilderAtF 103 5 b b p (Lib.byteCells t.data.toList) w→Lib.BuilderAtF 103 5 b b p (Lib.byteCells t.data.toList) w':=by
  intro p hp;have hlt:=Lib.BuilderAtF.lt hp;obtain ⟨hB,v,hv,hown,hne⟩:=hp
  exact ⟨hB,v,by rw [hb.block b hlt];exact hv,hown.kept (grown_of_below hb none) (by
   cases he:v.ownBlock with
   | none=>exact .inl rfl
   | some g=>exact .inr (by simp)),hne⟩
 exact h.elim (fun x=>.inl (key _ x)) (fun x=>.inr (key _ x))
theorem Bld.alloc {w:World} {b:Nat} {t:ByteArray} (h:Bld w b t) (o:Obj):Bld (w.alloc o) b t:=h.grown (below_alloc (Below.refl _ _) _)
theorem Bld.drewN {w:World} {b:Nat} {t:ByteArray} (h:Bld w b t) (n:Nat):Bld (w.drewN n) b t:=h.grown (pw_below_drewN (Below.refl _ _) _)
theorem Bld.drew {w:World} {b:Nat} {t:ByteArray} (h:Bld w b t):Bld w.drew b t:=h.grown (below_drew1 (Below.refl _ _))
theorem Bld.lt {w:World} {b:Nat} {t:ByteArray} (h:Bld w b t):b<w.heap.size:=h.elim (fun x=>Lib.BuilderAtF.lt x) (fun x=>Lib.BuilderAtF.lt x)
theorem Bld.fresh (w:World):Bld (w.alloc (.cells #[.pointer none,.slice none 0 0] 103)) w.heap.size ⟨#[]⟩:=Lib.IsBuilderF.of (Lib.fresh_isBuilder _ _ w)
theorem Bld.write {w:World} {b:Nat} {acc:ByteArray} (s:ByteArray) (h:Bld w b acc) (hs:acc.size+s.size≤140737488355328):
  Calls Tryz.prog 42 #[.pointer (some ⟨b,0,none⟩),.string s] w fun e w'=>e=.returned (.tuple #[.int .i64 s.size,.nilIface])∧Bld w' b (acc++s)∧Below b w w'∧Lib.OthersKept 5 (some b) w w':=by
 refine (Any.Builder_WriteString_k { Go.Proofs.Tryz.lays156 with } Go.Proofs.Tryz.Builder_Extra_156 b b (Lib.byteCells acc.data.toList) s w h (by rw [Lib.byteCells_length,Array.length_toList];exact hs) (Nat.le_of_lt h.lt)).mono ?_;rintro e w' ⟨rfl,h1,h2,h3⟩;refine ⟨rfl,.inr ?_,h2,h3⟩
 have e:Lib.byteCells (acc++s).data.toList=Lib.byteCells acc.data.toList++Lib.strCells s:=by
  rw [Lib.strCells_eq];unfold Lib.byteCells
  rw [←List.map_append,ByteArray.data_append,Array.toList_append]
 rw [e];exact h1
theorem Bld.text {w:World} {b:Nat} {t:ByteArray} (h:Bld w b t):
  Calls Tryz.prog 46 #[.pointer (some ⟨b,0,none⟩)] w fun e w'=>e=.returned (.string t)∧Below b w w'∧Lib.OthersKept 5 (some b) w w':=by
 refine (Go.Proofs.Tryz.Builder_String_any_k b b t.data.toList w h (Nat.le_of_lt h.lt)).mono ?_;rintro e w' ⟨rfl,_,h2,h3⟩;exact ⟨by rw [Array.toArray_toList],h2,h3⟩
theorem blk_others {w w':World} {b g:Nat} {cs:Array Value} {T:TypeId} {fz:Nat×Nat} (h:w.heap[g]?=some (.cells cs T fz)) (k:Lib.OthersKept 5 (some b) w w') (hne:g≠b) (hT:T≠5):w'.heap[g]?=some (.cells cs T fz):=
 k g _ h (fun e=>hne (Option.some.inj e)) (fun c f e=>by injection e with _ e2;exact hT e2)
theorem below_write {w W w':World} {b:Nat} (h:Below w.heap.size w W) (hb:w.heap.size≤b) (k:Below b W w'):Below w.heap.size w w':=h.trans (k.mono hb)
theorem piece {acc s t txt:ByteArray} (h:acc++(s++t)=txt) (hs:txt.size≤140737488355328):acc.size+s.size≤140737488355328∧(acc++s)++t=txt:=by
 refine ⟨?_,by rw [ByteArray.append_assoc];exact h⟩;rw [←h,ByteArray.size_append,ByteArray.size_append] at hs;omega
end Go.Proofs.YtahambloheoebaaGreatDoorX
