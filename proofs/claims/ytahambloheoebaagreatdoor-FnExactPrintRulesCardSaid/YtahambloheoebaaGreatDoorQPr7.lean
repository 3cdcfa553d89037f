/- The row of the law FnExactPrintRules: for every input the call returns true, and each argument reads behind it as it read before; no condition of ours. -/
import Derived.Deep.LoopGhost
import Derived.Deep.RegionHeld3
import Derived.OneCell
import Derived.IntWalk
import Derived.Test.YtahambloheoebaaGreatDoorQPr6
namespace Go.Proofs.YtahambloheoebaaGreatDoor.P
open Go.Proofs.YtahambloheoebaaGreatDoorX
open Go.RowKit Go.Proofs.YtahambloheoebaaGreatDoorW.PrintWords Go.Proofs.YtahambloheoebaaGreatDoorW.PrintLast Go.Proofs.YtahambloheoebaaGreatDoorW.PrintMore
attribute [local go_sem] max2_int min2_int max_two min_two max_three min_three max_four min_four
set_option linter.unusedVariables false
set_option linter.unusedSimpArgs false
open Go.Proofs.YtahambloheoebaaGreatDoorX
def gapB:ByteArray:=⟨#[10,32,32]⟩
def arrB:ByteArray:=⟨#[10,32,32,61,62]⟩
def endB:ByteArray:=⟨#[41,10]⟩
def patsF (k:Nat):List S42→Option ByteArray
 | []=>some ⟨#[]⟩
 | p::ps=>(impl_Pattern_String.f k p.f0 p.f1 p.f2).bind fun t=>(patsF k ps).bind fun u=>some ((gapB++t)++u)
def actsF (k:Nat) (r:S39):List S98→Option ByteArray
 | []=>some ⟨#[]⟩
 | a::as_=>(impl_Rule_act.f k r.f0 r.f1 r.f2 r.f3 r.f4 a.f0 a.f1 a.f2 a.f3).bind fun t=>(actsF k r as_).bind fun u=>some ((gapB++t)++u)
def headB (r:S39):ByteArray:=(((⟨#[40,114,117,108,101,32]⟩:ByteArray)++r.f0)++(⟨#[32]⟩:ByteArray))++itoaB r.f1
def ruleF (k:Nat) (r:S39):Option ByteArray:=
 if I64 r.f1∧r.f0.size≤4611686018427387904∧r.f2.length≤4611686018427387904∧r.f4.length≤4611686018427387904 then (patsF k r.f2).bind fun p=>(actsF k r r.f4).bind fun a=>some (headB r++(p++(arrB++(a++endB)))) else none
def rulesF (k:Nat):List S39→Option ByteArray
 | []=>some ⟨#[]⟩
 | r::rs=>(ruleF k r).bind fun t=>(rulesF k rs).bind fun u=>some (t++u)
def impl_PrintRules.f (k:Nat) (l0:List S39):Option ByteArray:=
 (impl_checked.f k l0).bind fun c=>if c=true then (rulesF k l0).bind fun t=>if t.size≤140737488355328∧l0.length≤4611686018427387904 then some t else none else some ⟨#[]⟩
theorem rdr_ (l:List S39) (i:Nat) (h:i<l.length):rd_T39 l (i:Int)=l[i]:=by unfold rd_T39;simp [h]
theorem rdp_ (l:List S42) (i:Nat) (h:i<l.length):rd_T42 l (i:Int)=l[i]:=by unfold rd_T42;simp [h]
theorem rda_ (l:List S98) (i:Nat) (h:i<l.length):rd_T98 l (i:Int)=l[i]:=by unfold rd_T98;simp [h]
theorem rulesF_at {k:Nat} {l:List S39} {i:Nat} (h:i<l.length) {u:ByteArray} (hu:rulesF k (l.drop i)=some u):
  ∃p a u',I64 (rd_T39 l (i:Int)).f1∧(rd_T39 l (i:Int)).f0.size≤4611686018427387904∧(rd_T39 l (i:Int)).f2.length≤4611686018427387904∧(rd_T39 l (i:Int)).f4.length≤4611686018427387904∧patsF k (rd_T39 l (i:Int)).f2=some p∧actsF k (rd_T39 l (i:Int)) (rd_T39 l (i:Int)).f4=some a∧rulesF k (l.drop (i+1))=some u'∧u=headB (rd_T39 l (i:Int))++(p++(arrB++(a++(endB++u')))):=by
 rw [rdr_ l i h];rw [List.drop_eq_getElem_cons h] at hu;unfold rulesF at hu
 obtain ⟨t,ht,hu⟩:=Option.bind_eq_some_iff.1 hu;obtain ⟨u',hu',hu⟩:=Option.bind_eq_some_iff.1 hu;unfold ruleF at ht
 split at ht
 case isFalse=>cases ht
 case isTrue hc=>
 obtain ⟨p,hp,ht⟩:=Option.bind_eq_some_iff.1 ht;obtain ⟨a,ha,ht⟩:=Option.bind_eq_some_iff.1 ht;cases ht;cases hu;exact ⟨p,a,u',hc.1,hc.2.1,hc.2.2.1,hc.2.2.2,hp,ha,hu',by simp only [ByteArray.append_assoc]⟩
theorem patsF_at {k:Nat} {l:List S42} {i:Nat} (h:i<l.length) {u:ByteArray} (hu:patsF k (l.drop i)=some u):
  ∃t u',impl_Pattern_String.f k (rd_T42 l (i:Int)).f0 (rd_T42 l (i:Int)).f1 (rd_T42 l (i:Int)).f2=some t∧patsF k (l.drop (i+1))=some u'∧u=(gapB++t)++u':=by
 rw [rdp_ l i h];rw [List.drop_eq_getElem_cons h] at hu;unfold patsF at hu
 obtain ⟨t,ht,hu⟩:=Option.bind_eq_some_iff.1 hu;obtain ⟨u',hu',hu⟩:=Option.bind_eq_some_iff.1 hu;cases hu;exact ⟨t,u',ht,hu',rfl⟩
theorem actsF_at {k:Nat} {r:S39} {l:List S98} {i:Nat} (h:i<l.length) {u:ByteArray} (hu:actsF k r (l.drop i)=some u):
  ∃t u',impl_Rule_act.f k r.f0 r.f1 r.f2 r.f3 r.f4 (rd_T98 l (i:Int)).f0 (rd_T98 l (i:Int)).f1 (rd_T98 l (i:Int)).f2 (rd_T98 l (i:Int)).f3=some t∧actsF k r (l.drop (i+1))=some u'∧u=(gapB++t)++u':=by
 rw [rda_ l i h];rw [List.drop_eq_getElem_cons h] at hu;unfold actsF at hu
 obtain ⟨t,ht,hu⟩:=Option.bind_eq_some_iff.1 hu;obtain ⟨u',hu',hu⟩:=Option.bind_eq_some_iff.1 hu;cases hu;exact ⟨t,u',ht,hu',rfl⟩
theorem drop_all_ {α : Type} (l:List α):l.drop l.length=[]:=List.drop_length
theorem empty_app (t:ByteArray):(⟨#[]⟩:ByteArray)++t=t:=ByteArray.empty_append
theorem fmt_any (n:Int) (w:World) (h:I64 n) (htb:TB w):Calls Tryz.prog 43 #[.int .i64 n,.int .i64 10] w fun e w'=>e=.returned (.string (itoaB n))∧Below w.heap.size w w':=by
 refine (Go.Proofs.Tryz.strconv_FormatInt_10 n h.1 h.2 w htb).mono ?_;rintro e w' ⟨rfl,k,os,rfl⟩;exact ⟨rfl,Go.Lib.below_grow _ _ (Nat.le_refl _) _ _⟩
set_option maxHeartbeats 8000000 in
set_option maxRecDepth 100000 in
theorem impl_PrintRules.calls (k:Nat) (A0:Option Addr) (c0:Nat) (l0:List S39) (r:ByteArray) (w:World) (hr0:Kd.C k39 w A0 l0.length l0) (hc0:l0.length≤c0) (h:impl_PrintRules.f k l0=some r) (htb_:Go.Proofs.YtahambloheoebaaGreatDoorX.TBS w:=by first|assumption|(with_reducible refine Go.Proofs.YtahambloheoebaaGreatDoorX.TBS.below (Aside0.out HTB) ?_;repeat (first|(with_reducible first|exact HB.out|apply below_alloc|apply pw_below_drewN|apply below_drew1)|exact HB.out|refine below_set ?_ (Aside0.out (by assumption))))):
  Calls Tryz.prog 15 #[.slice A0 l0.length c0] w fun e w'=>∃v,e=.returned v∧BR w' w.heap.size v (numsB r)∧Below w.heap.size w w':=by
 have HTB:=a_ htb_;clear htb_;have hu1:=Tryz.underlying39;have hu2:=Tryz.underlying42;have hu3:=Tryz.underlying98;have hu4:=Tryz.underlying103;have HR0:=a_ hr0;have HC0:=a_ hc0;have HB:=a_ (Below.refl w.heap.size w);clear hr0 hc0;unfold impl_PrintRules.f at h
 obtain ⟨c,hc,h⟩:=Option.bind_eq_some_iff.1 h;have HC:=a_ hc;clear hc;cases c with
 | false=>
  rw [if_neg (by decide)] at h;cases h;go_enter Tryz.func15,Tryz.ntmps15;go_wp2_with (go_at_call 26;refine (impl_checked.calls k _ _ l0 false _ HR0.out HC0.out HC.out).mono ?_;rintro e w1 ⟨rfl,hd⟩);go_ret;exact ⟨_,rfl,.inl ⟨rfl,rfl⟩,hd⟩
 | true=>
 rw [if_pos rfl] at h;obtain ⟨txt,htxt,h⟩:=Option.bind_eq_some_iff.1 h;split at h
 case isFalse=>cases h
 case isTrue hsz=>
 cases h;obtain ⟨hsz,hln⟩:=hsz;have HSZ:=a_ hsz;have HLN:=a_ hln;have HX:Aside0 (∃u,rulesF k (l0.drop 0)=some u∧(⟨#[]⟩:ByteArray)++u=r):=⟨⟨r,htxt,empty_app r⟩⟩
 clear htxt hsz hln;go_enter Tryz.func15,Tryz.ntmps15;go_wp2_with (go_at_call 26;refine (impl_checked.calls k _ _ l0 true _ HR0.out HC0.out HC.out).mono ?_;rintro e w1 ⟨rfl,hd⟩;have HB1:=a_ hd;clear hd);go_loopg [15] l0.length (fun gg v15 wr=>∃(i:Nat) (acc:ByteArray),i≤l0.length∧l0.length-i≤gg∧v15=.int .i64 (i:Int)∧Aside0 (∃u,rulesF k (l0.drop i)=some u∧acc++u=r)∧Aside0 (Bld wr w1.heap.size acc)∧Aside0 (Below w.heap.size w wr))
 case atStart=>exact ⟨0,⟨#[]⟩,Nat.zero_le _,Nat.le_refl _,rfl,HX,⟨Bld.fresh w1⟩,⟨below_alloc HB1.out _⟩⟩
 obtain ⟨i,acc,hi,hgg,rfl,HX1,HBl,HBw⟩:=hrel;have HLE:=a_ HB1.out.size;by_cases hlt:i<l0.length
 ·have hz:(i:Int)<(l0.length:Int):=by omega
  have hz0:(0:Int)≤(i:Int):=by omega
  obtain ⟨ad,A2,c2,A3,c3,A4,c4,e0,hx0,hx1,hx2,hx3,hx4,hl2,hC2,hl3,hC3,hl4,hC4⟩:=at_T39 HR0.out (i:Int) hz0 hz;cases e0;replace hx0:=(HBw.out.cell (World.block_lt_of_cell? w _ hx0)).trans hx0;replace hx1:=(HBw.out.cell (World.block_lt_of_cell? w _ hx1)).trans hx1;replace hx2:=(HBw.out.cell (World.block_lt_of_cell? w _ hx2)).trans hx2;replace hx3:=(HBw.out.cell (World.block_lt_of_cell? w _ hx3)).trans hx3;replace hx4:=(HBw.out.cell (World.block_lt_of_cell? w _ hx4)).trans hx4;simp only [Int.toNat_natCast] at hx0 hx1 hx2 hx3 hx4;obtain ⟨u,hu,he⟩:=HX1.out;obtain ⟨pt,at_,u',g1,g2,g3,g4,g5,g6,g7,g8⟩:=rulesF_at hlt hu;clear HX1 hu;generalize rd_T39 l0 (i:Int)=p at *;subst g8;have HC2:=a_ hC2;have HC3:=a_ hC3;have HC4:=a_ hC4;have HL2:=a_ hl2;have HL3:=a_ hl3;have HL4:=a_ hl4;have HI:=a_ g1;have HN2:=a_ g3;have HN4:=a_ g4;have HPt:Aside0 (patsF k (p.f2.drop 0)=some pt):=⟨g5⟩
  have HAc:Aside0 (actsF k p (p.f4.drop 0)=some at_):=⟨g6⟩
  have HU:=a_ g7;have sI:=itoaB_size p.f1 g1;have m1:((⟨#[40,114,117,108,101,32]⟩:ByteArray)++p.f0).size=6+p.f0.size:=ByteArray.size_append
  have m2:(((⟨#[40,114,117,108,101,32]⟩:ByteArray)++p.f0)++(⟨#[32]⟩:ByteArray)).size=6+p.f0.size+1:=by rw [ByteArray.size_append,m1];rfl
  obtain ⟨y1,y2⟩:=bt_le (show 6+p.f0.size≤9223372036854775807 by omega);obtain ⟨y3,y4⟩:=bt_le (show ((⟨#[40,114,117,108,101,32]⟩:ByteArray)++p.f0).size+1≤9223372036854775807 by omega);obtain ⟨y5,y6⟩:=bt_le (show (((⟨#[40,114,117,108,101,32]⟩:ByteArray)++p.f0)++(⟨#[32]⟩:ByteArray)).size+(itoaB p.f1).size≤9223372036854775807 by omega);obtain ⟨y7,y8⟩:=bt_le (show 6+p.f0.size+1≤9223372036854775807 by omega);obtain ⟨y9,y10⟩:=bt_le (show 6+p.f0.size+1+(itoaB p.f1).size≤9223372036854775807 by omega);obtain ⟨pc1,pc2⟩:=piece he HSZ.out;have HPC1:=a_ pc1;have HPC2:=a_ pc2;have hbl:=HBl.out.lt;have HBL:=a_ hbl;clear hC2 hC3 hC4 hl2 hl3 hl4 g1 g2 g3 g4 g5 g6 g7 he pc1 pc2 sI hbl;obtain ⟨wo,hwo⟩:∃x,x=wr:=⟨_,rfl⟩;subst hwo;go_wp2;go_region_held3 (fun w'=>w'.cell? ⟨wo.heap.size,0,none⟩=some (.string p.f0)∧w'.cell? ⟨wo.heap.size,1,none⟩=some (.int .i64 p.f1)) (first|exact ⟨bk_ BK2 0,bk_ BK2 1⟩|exact ⟨bk_ BK3 0,bk_ BK3 1⟩|go_keep) (first|(go_at_call 43;go_loud (refine (fmt_any p.f1 _ HI.out (TBS.TB HTB.out (by repeat (first|exact HBw.out|apply below_alloc|apply below_drew1|apply pw_below_drewN)))).mono ?_;rintro e w2 ⟨rfl,hd⟩;have HB2:=a_ (below_step (by repeat (first|exact HBw.out|apply below_alloc|apply below_drew1|apply pw_below_drewN)) hd);have HBl2:=a_ (Bld.grown (by repeat (first|exact HBl.out|apply Bld.drewN|apply Bld.drew|apply Bld.alloc)) hd);have BK2:=a_ (blk_below (g:=wo.heap.size) (o:=.cells #[.string p.f0,.int .i64 p.f1,.slice A2 p.f2.length c2,.slice A3 p.f3.length c3,.slice A4 p.f4.length c4] 39 (0,0)) (by repeat (first|exact blk_new wo _|refine blk_drewN ?_ _|refine blk_drew ?_)) hd);clear hd))|(go_at_call 42;go_loud (refine (Bld.write _ (by repeat (first|exact HBl2.out|apply Bld.drewN|apply Bld.drew)) HPC1.out).mono ?_;rintro e w3 ⟨rfl,hw1,hw2,hw3⟩;have HB3:=a_ (below_write (by repeat (first|exact HB2.out|apply below_drew1|apply pw_below_drewN)) HLE.out hw2);have BK3:=a_ (blk_others (g:=wo.heap.size) (cs:=#[.string p.f0,.int .i64 p.f1,.slice A2 p.f2.length c2,.slice A3 p.f3.length c3,.slice A4 p.f4.length c4]) (T:=39) (by repeat (first|exact BK2.out|refine blk_drewN ?_ _|refine blk_drew ?_)) hw3 (by have:=HBL.out;omega) (by decide));have HBl3:Aside0 (Bld w3 w1.heap.size (acc++headB p)):=⟨hw1⟩;clear hw1 hw2 hw3)))
  have hq2:=(blk_cell BK3.out 2).trans rfl;simp only [List.getElem?_toArray,List.getElem?_cons_zero,List.getElem?_cons_succ] at hq2;go_wp2;go_loopg [31] p.f2.length (fun gg v31 wr=>∃(j:Nat) (acc2:ByteArray),j≤p.f2.length∧p.f2.length-j≤gg∧v31=.int .i64 (j:Int)∧Aside0 (∃u,patsF k (p.f2.drop j)=some u∧acc2++(u++(arrB++(at_++(endB++u'))))=r)∧Aside0 (Bld wr w1.heap.size acc2)∧Aside0 (Below w.heap.size w wr)∧Aside0 (wr.heap[wo.heap.size]?=some (.cells #[.string p.f0,.int .i64 p.f1,.slice A2 p.f2.length c2,.slice A3 p.f3.length c3,.slice A4 p.f4.length c4] 39 (0,0))))
  case atStart=>exact ⟨0,acc++headB p,Nat.zero_le _,Nat.le_refl _,rfl,⟨⟨pt,HPt.out,HPC2.out⟩⟩,HBl3,HB3,BK3⟩
  obtain ⟨j,acc2,hj,hgj,rfl,HXp,HBlp,HBp,BKp⟩:=hrel;by_cases hlj:j<p.f2.length
  ·have hz':(j:Int)<(p.f2.length:Int):=by omega
   have hz0':(0:Int)≤(j:Int):=by omega
   obtain ⟨ad5,A5,c5,e0,hy0,hy1,hy2,hl5,hC5⟩:=at_T42 HC2.out (j:Int) hz0' hz';cases e0;replace hy0:=(HBp.out.cell (World.block_lt_of_cell? w _ hy0)).trans hy0;replace hy1:=(HBp.out.cell (World.block_lt_of_cell? w _ hy1)).trans hy1;replace hy2:=(HBp.out.cell (World.block_lt_of_cell? w _ hy2)).trans hy2;simp only [Int.toNat_natCast] at hy0 hy1 hy2;obtain ⟨u,hu,he⟩:=HXp.out;obtain ⟨t,u2,ht,hu2,rfl⟩:=patsF_at hlj hu;have he2:acc2++((gapB++t)++(u2++(arrB++(at_++(endB++u')))))=r:=by rw [←he];congr 1;exact ByteArray.append_assoc.symm
   generalize rd_T42 p.f2 (j:Int)=q at *;obtain ⟨pc1,pc2⟩:=piece he2 HSZ.out;have m5:(gapB++t).size=3+t.size:=ByteArray.size_append
   obtain ⟨y1,y2⟩:=bt_le (show 3+t.size≤9223372036854775807 by omega);have HC5:=a_ hC5;have HL5:=a_ hl5;have HT:=a_ ht;have HU2:=a_ hu2;have HPa:=a_ pc1;have HPb:=a_ pc2;clear hC5 hl5 ht hu2 hu he he2 pc1 pc2 m5 HXp;go_wp2_with (first|(go_at_call 44;refine (impl_Pattern_String.calls k q.f0 q.f1 A5 c5 q.f2 t _ (Kd.C_below HC5.out (by repeat (first|exact HBp.out|apply below_alloc|apply below_drew1|apply pw_below_drewN))) HL5.out HT.out (TBS.below HTB.out (by repeat (first|exact HBp.out|apply below_alloc|apply below_drew1|apply pw_below_drewN)))).mono ?_;rintro e_ w5 ⟨rfl,hd⟩;have HB5:=a_ (below_step (by repeat (first|exact HBp.out|apply below_alloc|apply below_drew1|apply pw_below_drewN)) hd);have HBl5:=a_ (Bld.grown (by repeat (first|exact HBlp.out|apply Bld.drewN|apply Bld.drew|apply Bld.alloc)) hd);have BK5:=a_ (blk_below (g:=wo.heap.size) (o:=.cells #[.string p.f0,.int .i64 p.f1,.slice (some ad5) p.f2.length c2,.slice A3 p.f3.length c3,.slice A4 p.f4.length c4] 39 (0,0)) (by repeat (first|exact BKp.out|refine blk_alloc ?_ _|refine blk_drewN ?_ _|refine blk_drew ?_)) hd);clear hd)|(go_at_call 42;(refine (Bld.write _ (by repeat (first|exact HBl5.out|apply Bld.drewN|apply Bld.drew|apply Bld.alloc)) HPa.out).mono ?_;rintro e_ w6 ⟨rfl,hw1,hw2,hw3⟩;have HB6:=a_ (below_write (by repeat (first|exact HB5.out|apply below_alloc|apply below_drew1|apply pw_below_drewN)) HLE.out hw2);have BK6:=a_ (blk_others (g:=wo.heap.size) (cs:=#[.string p.f0,.int .i64 p.f1,.slice (some ad5) p.f2.length c2,.slice A3 p.f3.length c3,.slice A4 p.f4.length c4]) (T:=39) (by repeat (first|exact BK5.out|refine blk_drewN ?_ _|refine blk_drew ?_|refine blk_alloc ?_ _)) hw3 (by have:=HBL.out;omega) (by decide));have HBl6:Aside0 (Bld w6 w1.heap.size (acc2++(gapB++t))):=⟨hw1⟩;clear hw1 hw2 hw3)));go_roundg (p.f2.length-(j+1))
   case measure=>omega
   case rel=>exact ⟨j+1,acc2++(gapB++t),by omega,by omega,by rw [show wrap64 ((j:Int)+1)=((j+1:Nat):Int) by unfold wrap64;have:=HN2.out;omega],⟨⟨u2,HU2.out,HPb.out⟩⟩,HBl6,HB6,BK6⟩
  ·have hjl:j=p.f2.length:=by omega
   subst hjl;obtain ⟨u,hu,he⟩:=HXp.out;rw [drop_all_] at hu;cases hu;rw [empty_app] at he;obtain ⟨pc1,pc2⟩:=piece he HSZ.out;have HPa:=a_ pc1;have HPb:=a_ pc2;clear he pc1 pc2 HXp hq2;obtain ⟨wp,hwp⟩:∃x,x=wr:=⟨_,rfl⟩;subst hwp;obtain ⟨accp,haccp⟩:∃x,x=acc2:=⟨_,rfl⟩;subst haccp;go_wp2_with ((go_at_call 42;(refine (Bld.write _ (by repeat (first|exact HBlp.out|apply Bld.drewN|apply Bld.drew|apply Bld.alloc)) HPa.out).mono ?_;rintro e_ w7 ⟨rfl,hw1,hw2,hw3⟩;have HB7:=a_ (below_write (by repeat (first|exact HBp.out|apply below_alloc|apply below_drew1|apply pw_below_drewN)) HLE.out hw2);have BK7:=a_ (blk_others (g:=wo.heap.size) (cs:=#[.string p.f0,.int .i64 p.f1,.slice A2 p.f2.length c2,.slice A3 p.f3.length c3,.slice A4 p.f4.length c4]) (T:=39) (by repeat (first|exact BKp.out|refine blk_drewN ?_ _|refine blk_drew ?_|refine blk_alloc ?_ _)) hw3 (by have:=HBL.out;omega) (by decide));have HBl7:Aside0 (Bld w7 w1.heap.size (accp++arrB)):=⟨hw1⟩;have hq4:=(blk_cell BK7.out 4).trans rfl;simp only [List.getElem?_toArray,List.getElem?_cons_zero,List.getElem?_cons_succ] at hq4;clear hw1 hw2 hw3)));go_loopg [44] p.f4.length (fun gg v44 wr=>∃(j:Nat) (acc2:ByteArray),j≤p.f4.length∧p.f4.length-j≤gg∧v44=.int .i64 (j:Int)∧Aside0 (∃u,actsF k p (p.f4.drop j)=some u∧acc2++(u++(endB++u'))=r)∧Aside0 (Bld wr w1.heap.size acc2)∧Aside0 (Below w.heap.size w wr)∧Aside0 (wr.heap[wo.heap.size]?=some (.cells #[.string p.f0,.int .i64 p.f1,.slice A2 p.f2.length c2,.slice A3 p.f3.length c3,.slice A4 p.f4.length c4] 39 (0,0))))
   case atStart=>exact ⟨0,accp++arrB,Nat.zero_le _,Nat.le_refl _,rfl,⟨⟨at_,HAc.out,HPb.out⟩⟩,HBl7,HB7,BK7⟩
   obtain ⟨j,acc2,hj,hgj,rfl,HXp,HBlp,HBp,BKp⟩:=hrel;by_cases hlj:j<p.f4.length
   ·have hz':(j:Int)<(p.f4.length:Int):=by omega
    have hz0':(0:Int)≤(j:Int):=by omega
    obtain ⟨ad5,A5,c5,e0,hy0,hy1,hy2,hy3,hl5,hC5⟩:=at_T98 HC4.out (j:Int) hz0' hz';cases e0;replace hy0:=(HBp.out.cell (World.block_lt_of_cell? w _ hy0)).trans hy0;replace hy1:=(HBp.out.cell (World.block_lt_of_cell? w _ hy1)).trans hy1;replace hy2:=(HBp.out.cell (World.block_lt_of_cell? w _ hy2)).trans hy2;replace hy3:=(HBp.out.cell (World.block_lt_of_cell? w _ hy3)).trans hy3;simp only [Int.toNat_natCast] at hy0 hy1 hy2 hy3;obtain ⟨u,hu,he⟩:=HXp.out;obtain ⟨t,u2,ht,hu2,rfl⟩:=actsF_at hlj hu;have he2:acc2++((gapB++t)++(u2++(endB++u')))=r:=by rw [←he];congr 1;exact ByteArray.append_assoc.symm
    generalize rd_T98 p.f4 (j:Int)=q at *;obtain ⟨pc1,pc2⟩:=piece he2 HSZ.out;have m5:(gapB++t).size=3+t.size:=ByteArray.size_append
    obtain ⟨y1,y2⟩:=bt_le (show 3+t.size≤9223372036854775807 by omega);have HC5:=a_ hC5;have HL5:=a_ hl5;have HT:=a_ ht;have HU2:=a_ hu2;have HPa:=a_ pc1;have HPb:=a_ pc2;clear hC5 hl5 ht hu2 hu he he2 pc1 pc2 m5 HXp;have hk0:=(blk_cell (blk_alloc BKp.out (.cells #[.int .i64 q.f0,.int .i64 q.f1,.string q.f2,.slice A5 q.f3.length c5] 98)) 0).trans rfl;have hk1:=(blk_cell (blk_alloc BKp.out (.cells #[.int .i64 q.f0,.int .i64 q.f1,.string q.f2,.slice A5 q.f3.length c5] 98)) 1).trans rfl;have hk2:=(blk_cell (blk_alloc BKp.out (.cells #[.int .i64 q.f0,.int .i64 q.f1,.string q.f2,.slice A5 q.f3.length c5] 98)) 2).trans rfl;have hk3:=(blk_cell (blk_alloc BKp.out (.cells #[.int .i64 q.f0,.int .i64 q.f1,.string q.f2,.slice A5 q.f3.length c5] 98)) 3).trans rfl;have hk4:=(blk_cell (blk_alloc BKp.out (.cells #[.int .i64 q.f0,.int .i64 q.f1,.string q.f2,.slice A5 q.f3.length c5] 98)) 4).trans rfl;simp only [List.getElem?_toArray,List.getElem?_cons_zero,List.getElem?_cons_succ] at hk0 hk1 hk2 hk3 hk4;go_wp2_with (first|(go_at_call 45;refine (impl_Rule_act.calls k p.f0 p.f1 _ _ p.f2 _ _ p.f3 _ _ p.f4 q.f0 q.f1 q.f2 A5 c5 q.f3 t _ (Kd.C_below HC2.out (by repeat (first|exact HBp.out|apply below_alloc|apply below_drew1|apply pw_below_drewN))) HL2.out (Kd.C_below HC3.out (by repeat (first|exact HBp.out|apply below_alloc|apply below_drew1|apply pw_below_drewN))) HL3.out (Kd.C_below HC4.out (by repeat (first|exact HBp.out|apply below_alloc|apply below_drew1|apply pw_below_drewN))) HL4.out (Kd.C_below HC5.out (by repeat (first|exact HBp.out|apply below_alloc|apply below_drew1|apply pw_below_drewN))) HL5.out HT.out (TBS.TB HTB.out (by repeat (first|exact HBp.out|apply below_alloc|apply below_drew1|apply pw_below_drewN)))).mono ?_;rintro e_ w5 ⟨rfl,hd⟩;have HB5:=a_ (below_step (by repeat (first|exact HBp.out|apply below_alloc|apply below_drew1|apply pw_below_drewN)) hd);have HBl5:=a_ (Bld.grown (by repeat (first|exact HBlp.out|apply Bld.drewN|apply Bld.drew|apply Bld.alloc)) hd);have BK5:=a_ (blk_below (g:=wo.heap.size) (o:=.cells #[.string p.f0,.int .i64 p.f1,.slice A2 p.f2.length c2,.slice A3 p.f3.length c3,.slice (some ad5) p.f4.length c4] 39 (0,0)) (by repeat (first|exact BKp.out|refine blk_alloc ?_ _|refine blk_drewN ?_ _|refine blk_drew ?_)) hd);clear hd)|(go_at_call 42;(refine (Bld.write _ (by repeat (first|exact HBl5.out|apply Bld.drewN|apply Bld.drew|apply Bld.alloc)) HPa.out).mono ?_;rintro e_ w6 ⟨rfl,hw1,hw2,hw3⟩;have HB6:=a_ (below_write (by repeat (first|exact HB5.out|apply below_alloc|apply below_drew1|apply pw_below_drewN)) HLE.out hw2);have BK6:=a_ (blk_others (g:=wo.heap.size) (cs:=#[.string p.f0,.int .i64 p.f1,.slice A2 p.f2.length c2,.slice A3 p.f3.length c3,.slice (some ad5) p.f4.length c4]) (T:=39) (by repeat (first|exact BK5.out|refine blk_drewN ?_ _|refine blk_drew ?_|refine blk_alloc ?_ _)) hw3 (by have:=HBL.out;omega) (by decide));have HBl6:Aside0 (Bld w6 w1.heap.size (acc2++(gapB++t))):=⟨hw1⟩;clear hw1 hw2 hw3)))
    go_roundg (p.f4.length-(j+1))
    case measure=>omega
    case rel=>exact ⟨j+1,acc2++(gapB++t),by omega,by omega,by rw [show wrap64 ((j:Int)+1)=((j+1:Nat):Int) by unfold wrap64;have:=HN4.out;omega],⟨⟨u2,HU2.out,HPb.out⟩⟩,HBl6,HB6,BK6⟩
   ·have hjl:j=p.f4.length:=by omega
    subst hjl;obtain ⟨u,hu,he⟩:=HXp.out;rw [drop_all_] at hu;cases hu;rw [empty_app] at he;obtain ⟨pc1,pc2⟩:=piece he HSZ.out;have HPa:=a_ pc1;have HPb:=a_ pc2;clear he pc1 pc2 HXp hq4;obtain ⟨wq,hwq⟩:∃x,x=wr:=⟨_,rfl⟩;subst hwq;go_wp2_with ((go_at_call 42;(refine (Bld.write _ (by repeat (first|exact HBlp.out|apply Bld.drewN|apply Bld.drew|apply Bld.alloc)) HPa.out).mono ?_;rintro e_ w8 ⟨rfl,hw1,hw2,hw3⟩;have HB8:=a_ (below_write (by repeat (first|exact HBp.out|apply below_alloc|apply below_drew1|apply pw_below_drewN)) HLE.out hw2);have BK8:=a_ (blk_others (g:=wo.heap.size) (cs:=#[.string p.f0,.int .i64 p.f1,.slice A2 p.f2.length c2,.slice A3 p.f3.length c3,.slice A4 p.f4.length c4]) (T:=39) (by repeat (first|exact BKp.out|refine blk_drewN ?_ _|refine blk_drew ?_|refine blk_alloc ?_ _)) hw3 (by have:=HBL.out;omega) (by decide));have HBl8:Aside0 (Bld w8 w1.heap.size (acc2++endB)):=⟨hw1⟩;clear hw1 hw2 hw3)));go_roundg (l0.length-(i+1))
    case measure=>omega
    case rel=>exact ⟨i+1,acc2++endB,by omega,by omega,by rw [show wrap64 ((i:Int)+1)=((i+1:Nat):Int) by unfold wrap64;have:=HLN.out;omega],⟨⟨u',HU.out,HPb.out⟩⟩,HBl8,HB8⟩
 ·have hil:i=l0.length:=by omega
  subst hil;obtain ⟨u,hu,he⟩:=HX1.out;rw [drop_all_] at hu;cases hu;have he2:acc=r:=by rw [←he];exact ByteArray.append_empty.symm
  subst he2;have kc_:=fun (W:World)=>Lib.run_convert_string_bytes (P:=Tryz.prog) W 9 22 5 acc Tryz.underlying9 Tryz.underlying22 Tryz.underlying5
  clear HX1;go_wp2_with (go_at_call 46;refine (Bld.text HBl.out).mono ?_;rintro e_ w9 ⟨rfl,hw2,hw3⟩;have HB9:=a_ (below_write HBw.out HLE.out hw2);clear hw2 hw3);go_ret;exact ⟨_,rfl,BR_conv _ _ HB9.out.size,below_step HB9.out (below_conv _ _ _)⟩
end Go.Proofs.YtahambloheoebaaGreatDoor.P
namespace Go.Proofs.YtahambloheoebaaGreatDoor.P
open Go.Proofs.YtahambloheoebaaGreatDoorX
open Go.RowKit Go.Proofs.YtahambloheoebaaGreatDoorW.PrintWords Go.Proofs.YtahambloheoebaaGreatDoorW.PrintLast Go.Proofs.YtahambloheoebaaGreatDoorW.PrintMore
attribute [local go_sem] max2_int min2_int max_two min_two max_three min_three max_four min_four
set_option linter.unusedVariables false
set_option linter.unusedSimpArgs false
def laws_eqByteS.l0:Nat→List Int→List Int→Int→Option (Bool)
 | 0,_,_,_=>none
 | k+1,x0,x1,x5=>if x5<(x0.length:Int) then (if 0≤x5 then (if x5<(x1.length:Int) then (if (rd x0 x5)=(rd x1 x5) then (laws_eqByteS.l0 k x0 x1 (wrap64 (x5+1))) else (some false)) else (none)) else (none)) else (some true)
def laws_eqByteS.f (k:Nat) (l0:List Int) (l1:List Int):Option (Bool):=if (l0.length:Int)=(l1.length:Int) then (laws_eqByteS.l0 k l0 l1 0) else (some false)
theorem laws_eqByteS.mono_l:∀k,(∀y0 y1 y2,LeO (laws_eqByteS.l0 k y0 y1 y2) (laws_eqByteS.l0 (k+1) y0 y1 y2))
 | 0=>fun _ _ _ r h=>by simp [laws_eqByteS.l0] at h
 | k+1=>by
  have ih0:=laws_eqByteS.mono_l k
  ·intro y0 y1 y2;unfold laws_eqByteS.l0
   repeat' with_reducible first|apply ih0|apply LeO.refl|apply LeO.none|refine LeO.ite ?_ ?_|refine LeO.bind ?_ (fun _=>?_)
theorem laws_eqByteS.mono:∀a0 a1 k,LeO (laws_eqByteS.f k a0 a1) (laws_eqByteS.f (k+1) a0 a1):=by
 intro a0 a1 k;have ih0:=laws_eqByteS.mono_l k;unfold laws_eqByteS.f
 repeat' with_reducible first|apply ih0|apply LeO.refl|apply LeO.none|refine LeO.ite ?_ ?_|refine LeO.bind ?_ (fun _=>?_)
set_option maxHeartbeats 8000000 in
set_option maxRecDepth 100000 in
theorem laws_eqByteS.calls (k:Nat) (A0:Option Addr) (c0:Nat) (l0:List Int) (A1:Option Addr) (c1:Nat) (l1:List Int) (r:Bool) (w:World) (hr0:Kd.C (Kd.int .u8) w A0 l0.length l0) (hc0:l0.length≤c0) (hr1:Kd.C (Kd.int .u8) w A1 l1.length l1) (hc1:l1.length≤c1) (h:laws_eqByteS.f k l0 l1=some r) (hT_:r=true:=by first|rfl|assumption):
  Calls Tryz.prog 16 #[.slice A0 l0.length c0,.slice A1 l1.length c1] w fun e w'=>e=.returned (.bool r)∧Drawn0 w w':=by
 subst hT_;have HR0:=a_ hr0;have HC0:=a_ hc0;clear hr0 hc0;have HR1:=a_ hr1;have HC1:=a_ hc1;clear hr1 hc1;have H:(if (l0.length:Int)=(l1.length:Int) then (laws_eqByteS.l0 k l0 l1 0) else (some false))=some true:=h
 clear h;by_cases c3:(l0.length:Int)=(l1.length:Int)
 ·rw [if_pos c3] at H;obtain ⟨c3b0,c3b1⟩:=bq_ c3;have c3b2:(l0.length==l1.length)=true:=by first|simpa using c3|(simp at c3 ⊢;omega)
  clear c3;have H':=a_ H;clear H;go_enter Tryz.func16,Tryz.ntmps16;go_wp2;repeat (go_quiet (fail);try go_wp2)
  go_loopg [5] k (fun kq v5 w'=>∃(x5_1:Int),v5=.int .i64 x5_1∧Aside0 (laws_eqByteS.l0 kq l0 l1 x5_1=some true)∧Aside0 (kq≤k)∧Drawn0 w w')
  case atStart=>exact ⟨(0),mq_,H',⟨Nat.le_refl _⟩,by repeat (first|exact Drawn0.refl _|apply Drawn0.step)⟩
  clear H';(try clear c3b0);(try clear c3b1);(try clear c3b2);obtain ⟨x5_1,rfl,HA,HK1,⟨m1,rfl⟩⟩:=hrel;obtain _|k1:=gk
  ·exact absurd HA.out (by simp [laws_eqByteS.l0])
  have H:=HA.out;clear HA;simp only [laws_eqByteS.l0] at H;by_cases c4:x5_1<(l0.length:Int)
  ·rw [if_pos c4] at H;have c4b0:=ct_ c4;clear c4;by_cases c5:0≤x5_1
   case neg=>
    rw [if_neg c5] at H;cases H
   rw [if_pos c5] at H;have c5b0:=ct_ c5;clear c5;by_cases c6:x5_1<(l1.length:Int)
   case neg=>
    rw [if_neg c6] at H;cases H
   rw [if_pos c6] at H;have c6b0:=ct_ c6;clear c6;by_cases c7:(rd l0 x5_1)=(rd l1 x5_1)
   case neg=>
    rw [if_neg c7] at H;obtain ⟨c7b0,c7b1⟩:=bn_ c7;exact absurd (Option.some.inj H) (by decide)
   rw [if_pos c7] at H;obtain ⟨c7b0,c7b1⟩:=bq_ c7;clear c7;have H':=a_ H;clear H;have p388:0≤(x5_1:Int):=md_
   have q388:x5_1<(l0.length:Int):=md_
   obtain ⟨ad388,e388,hx388_0⟩:=Kd.at_int HR0.out x5_1 p388 q388;cases e388;replace p388:=eq_true p388;replace q388:=eq_true q388;have p389:0≤(x5_1:Int):=md_
   have q389:x5_1<(l1.length:Int):=md_
   obtain ⟨ad389,e389,hx389_0⟩:=Kd.at_int HR1.out x5_1 p389 q389;cases e389;replace p389:=eq_true p389;replace q389:=eq_true q389;go_wp2;repeat (go_quiet (fail);try go_wp2)
   go_roundg k1
   case measure=>
    have:=HK1.out
    omega
   case rel=>exact ⟨(wrap64 (x5_1+1)),mq_,H',⟨by have:=HK1.out;omega⟩,by repeat (first|exact Drawn0.refl _|apply Drawn0.step)⟩
  ·rw [if_neg c4] at H;have c4b0:=cf_ c4;clear c4;clear H;go_wp2;repeat (go_quiet (fail);try go_wp2)
   go_ret;exact ⟨by first|rfl|(simp;done)|(simp [*];done),by repeat (first|exact Drawn0.refl _|apply Drawn0.step)⟩
 ·rw [if_neg c3] at H;obtain ⟨c3b0,c3b1⟩:=bn_ c3;have c3b2:(l0.length==l1.length)=false:=by first|simpa using c3|(simp at c3 ⊢;omega)
  exact absurd (Option.some.inj H) (by decide)
def laws_eqValue.f (a0_0:Int) (a0_1:Int) (a0_2:ByteArray) (a1_0:Int) (a1_1:Int) (a1_2:ByteArray):Option (Bool):=if a0_0=a1_0 then (if a0_1=a1_1 then (if a0_2.toList=a1_2.toList then (some true) else (some false)) else (some false)) else (some false)
set_option maxHeartbeats 8000000 in
set_option maxRecDepth 100000 in
theorem laws_eqValue.calls (a0_0:Int) (a0_1:Int) (a0_2:ByteArray) (a1_0:Int) (a1_1:Int) (a1_2:ByteArray) (r:Bool) (w:World) (h:laws_eqValue.f a0_0 a0_1 a0_2 a1_0 a1_1 a1_2=some r) (hT_:r=true:=by first|rfl|assumption):
  Calls Tryz.prog 173 #[.agg #[.int .i64 a0_0,.int .i64 a0_1,.string a0_2],.agg #[.int .i64 a1_0,.int .i64 a1_1,.string a1_2]] w fun e w'=>e=.returned (.bool r)∧Below w.heap.size w w':=by
 subst hT_;have hu80:=Tryz.underlying80;have HB:=a_ (Below.refl w.heap.size w);have H:=h;unfold laws_eqValue.f at H
 clear h;by_cases c3:a0_0=a1_0
 case neg=>
  rw [if_neg c3] at H;obtain ⟨c3b0,c3b1⟩:=bn_ c3;exact absurd (Option.some.inj H) (by decide)
 rw [if_pos c3] at H;obtain ⟨c3b0,c3b1⟩:=bq_ c3;clear c3;by_cases c4:a0_1=a1_1
 case neg=>
  rw [if_neg c4] at H;obtain ⟨c4b0,c4b1⟩:=bn_ c4;exact absurd (Option.some.inj H) (by decide)
 rw [if_pos c4] at H;obtain ⟨c4b0,c4b1⟩:=bq_ c4;clear c4;by_cases c5:a0_2.toList=a1_2.toList
 case neg=>
  rw [if_neg c5] at H;obtain ⟨c5b0,c5b1⟩:=bn_ c5;exact absurd (Option.some.inj H) (by decide)
 rw [if_pos c5] at H;obtain ⟨c5b0,c5b1⟩:=bq_ c5;clear c5;clear H;go_enter Tryz.func173,Tryz.ntmps173;go_wp2_with (first|((with_reducible refine gate_dst (N:=2) rfl ?_);refine bh_ 2 #[.int .i64 a0_0,.int .i64 a0_1,.string a0_2] 80 HB ?_;intro gb390 hg wx BK390 GE390 hb;replace HB:=ms_ HB hb;clear hb hg)|((with_reducible refine gate_dst (N:=3) rfl ?_);refine bh_ 3 #[.int .i64 a1_0,.int .i64 a1_1,.string a1_2] 80 HB ?_;intro gb391 hg wx BK391 GE391 hb;obtain ⟨NB390_391,NB391_390⟩:=mn_ BK390 hg;replace BK390:=mk_ BK390 hb;replace HB:=ms_ HB hb;clear hb hg;have nNB390_391:=NB390_391.out;have nNB391_390:=NB391_390.out;replace hz390:=cz3 BK390;replace hz391:=cz3 BK391));go_ret;exact ⟨me_,mb_ HB⟩
def laws_eqTerm.f (a0_0:Int) (a0_1:Int) (a0_2:ByteArray) (a0_3:Int) (a0_4:Int) (a0_5:ByteArray) (a1_0:Int) (a1_1:Int) (a1_2:ByteArray) (a1_3:Int) (a1_4:Int) (a1_5:ByteArray):Option (Bool):=if a0_0=a1_0 then (if a0_1=a1_1 then (if a0_2.toList=a1_2.toList then ((laws_eqValue.f a0_3 a0_4 a0_5 a1_3 a1_4 a1_5).bind fun t394=>(if t394=true then (some true) else (some false))) else (some false)) else (some false)) else (some false)
set_option maxHeartbeats 8000000 in
set_option maxRecDepth 100000 in
theorem laws_eqTerm.calls (a0_0:Int) (a0_1:Int) (a0_2:ByteArray) (a0_3:Int) (a0_4:Int) (a0_5:ByteArray) (a1_0:Int) (a1_1:Int) (a1_2:ByteArray) (a1_3:Int) (a1_4:Int) (a1_5:ByteArray) (r:Bool) (w:World) (h:laws_eqTerm.f a0_0 a0_1 a0_2 a0_3 a0_4 a0_5 a1_0 a1_1 a1_2 a1_3 a1_4 a1_5=some r) (hT_:r=true:=by first|rfl|assumption):
  Calls Tryz.prog 188 #[.agg #[.int .i64 a0_0,.int .i64 a0_1,.string a0_2,.int .i64 a0_3,.int .i64 a0_4,.string a0_5],.agg #[.int .i64 a1_0,.int .i64 a1_1,.string a1_2,.int .i64 a1_3,.int .i64 a1_4,.string a1_5]] w fun e w'=>e=.returned (.bool r)∧Below w.heap.size w w':=by
 subst hT_;have hu86:=Tryz.underlying86;have hu80:=Tryz.underlying80;have HB:=a_ (Below.refl w.heap.size w);have H:=h;unfold laws_eqTerm.f at H
 clear h;by_cases c3:a0_0=a1_0
 case neg=>
  rw [if_neg c3] at H;obtain ⟨c3b0,c3b1⟩:=bn_ c3;exact absurd (Option.some.inj H) (by decide)
 rw [if_pos c3] at H;obtain ⟨c3b0,c3b1⟩:=bq_ c3;clear c3;by_cases c4:a0_1=a1_1
 case neg=>
  rw [if_neg c4] at H;obtain ⟨c4b0,c4b1⟩:=bn_ c4;exact absurd (Option.some.inj H) (by decide)
 rw [if_pos c4] at H;obtain ⟨c4b0,c4b1⟩:=bq_ c4;clear c4;by_cases c5:a0_2.toList=a1_2.toList
 case neg=>
  rw [if_neg c5] at H;obtain ⟨c5b0,c5b1⟩:=bn_ c5;exact absurd (Option.some.inj H) (by decide)
 rw [if_pos c5] at H;obtain ⟨c5b0,c5b1⟩:=bq_ c5;clear c5;obtain ⟨t394,A6,H⟩:=ob_ H;by_cases c7:t394=true
 ·subst c7;rw [if_pos rfl] at H;clear H;go_enter Tryz.func188,Tryz.ntmps188;go_wp2_with (first|((with_reducible refine gate_dst (N:=2) rfl ?_);refine bh_ 2 #[.int .i64 a0_0,.int .i64 a0_1,.string a0_2,.int .i64 a0_3,.int .i64 a0_4,.string a0_5] 86 HB ?_;intro gb392 hg wx BK392 GE392 hb;replace HB:=ms_ HB hb;clear hb hg)|((with_reducible refine gate_dst (N:=3) rfl ?_);refine bh_ 3 #[.int .i64 a1_0,.int .i64 a1_1,.string a1_2,.int .i64 a1_3,.int .i64 a1_4,.string a1_5] 86 HB ?_;intro gb393 hg wx BK393 GE393 hb;obtain ⟨NB392_393,NB393_392⟩:=mn_ BK392 hg;replace BK392:=mk_ BK392 hb;replace HB:=ms_ HB hb;clear hb hg;have nNB392_393:=NB392_393.out;have nNB393_392:=NB393_392.out;replace hz392:=cz6 BK392;replace hz393:=cz6 BK393)|((with_reducible refine gate_callee (f:=173) rfl ?_);refine goesL_ (some 24) rfl rfl Tryz.func173 (by kernel_rfl) rfl #[.agg #[.int .i64 a0_3,.int .i64 a0_4,.string a0_5],.agg #[.int .i64 a1_3,.int .i64 a1_4,.string a1_5]] rfl mw_ ?_;(with_reducible refine (laws_eqValue.calls a0_3 a0_4 a0_5 a1_3 a1_4 a1_5 true _ A6.out).mono ?_);rintro e wx ⟨rfl,hb⟩;refine ⟨_,rfl,?_⟩;replace BK392:=mk_ BK392 hb;replace BK393:=mk_ BK393 hb;replace HB:=ms_ HB hb;(try clear hb)));go_ret;exact ⟨me_,mb_ HB⟩
 ·replace c7:=Bool.eq_false_iff.mpr c7;subst c7;rw [if_neg (show ¬(false=true) by decide)] at H;exact absurd (Option.some.inj H) (by decide)
def laws_eqTermS.l0:Nat→List (S86)→List (S86)→Int→Option (Bool)
 | 0,_,_,_=>none
 | k+1,x0,x1,x5=>if x5<(x0.length:Int) then (if 0≤x5 then (if x5<(x1.length:Int) then ((laws_eqTerm.f ((rd_T86 x0 x5).f0) ((rd_T86 x0 x5).f1) ((rd_T86 x0 x5).f2) ((rd_T86 x0 x5).f3.f0) ((rd_T86 x0 x5).f3.f1) ((rd_T86 x0 x5).f3.f2) ((rd_T86 x1 x5).f0) ((rd_T86 x1 x5).f1) ((rd_T86 x1 x5).f2) ((rd_T86 x1 x5).f3.f0) ((rd_T86 x1 x5).f3.f1) ((rd_T86 x1 x5).f3.f2)).bind fun t397=>(if t397=true then (laws_eqTermS.l0 k x0 x1 (wrap64 (x5+1))) else (some false))) else (none)) else (none)) else (some true)
def laws_eqTermS.f (k:Nat) (l0:List (S86)) (l1:List (S86)):Option (Bool):=if (l0.length:Int)=(l1.length:Int) then (laws_eqTermS.l0 k l0 l1 0) else (some false)
theorem laws_eqTermS.mono_l:∀k,(∀y0 y1 y2,LeO (laws_eqTermS.l0 k y0 y1 y2) (laws_eqTermS.l0 (k+1) y0 y1 y2))
 | 0=>fun _ _ _ r h=>by simp [laws_eqTermS.l0] at h
 | k+1=>by
  have ih0:=laws_eqTermS.mono_l k
  ·intro y0 y1 y2;unfold laws_eqTermS.l0
   repeat' with_reducible first|apply ih0|apply LeO.refl|apply LeO.none|refine LeO.ite ?_ ?_|refine LeO.bind ?_ (fun _=>?_)
theorem laws_eqTermS.mono:∀a0 a1 k,LeO (laws_eqTermS.f k a0 a1) (laws_eqTermS.f (k+1) a0 a1):=by
 intro a0 a1 k;have ih0:=laws_eqTermS.mono_l k;unfold laws_eqTermS.f
 repeat' with_reducible first|apply ih0|apply LeO.refl|apply LeO.none|refine LeO.ite ?_ ?_|refine LeO.bind ?_ (fun _=>?_)
def laws_eqTermS.T6:Bool×List (List Nat×List Nat):=(true,[([],[]),([],[]),([0,1],[0,1]),([2],[2]),([],[]),([],[]),([4,5],[4,5]),([6],[6]),([3,7],[3,7]),([8],[8])])
def laws_eqTermS.B6:List Nat:=[0,0,3,7,0,0,48,112,255,511]
theorem laws_eqTermS.tab6:rtab .any (opsOf Tryz.f172 6)=laws_eqTermS.T6:=by kernel_rfl
theorem laws_eqTermS.bits6:waitsOk laws_eqTermS.T6.2 laws_eqTermS.B6=true:=by kernel_rfl
abbrev be38_0:Array Bool:=#[f_,f_,f_,f_,f_,f_,f_,f_,f_,f_]
abbrev be38_1:Array Bool:=#[t_,f_,f_,f_,f_,f_,f_,f_,f_,f_]
abbrev be38_2:Array Bool:=#[t_,t_,f_,f_,f_,f_,f_,f_,f_,f_]
abbrev be38_3:Array Bool:=#[t_,t_,t_,f_,f_,f_,f_,f_,f_,f_]
abbrev be38_4:Array Bool:=#[t_,t_,t_,f_,t_,f_,f_,f_,f_,f_]
abbrev be38_5:Array Bool:=#[t_,t_,t_,f_,t_,t_,f_,f_,f_,f_]
abbrev be38_6:Array Bool:=#[t_,t_,t_,f_,t_,t_,t_,f_,f_,f_]
abbrev be38_7:Array Bool:=#[t_,t_,t_,t_,t_,t_,t_,f_,f_,f_]
abbrev be38_8:Array Bool:=#[t_,t_,t_,t_,t_,t_,t_,t_,f_,f_]
abbrev be38_9:Array Bool:=#[t_,t_,t_,t_,t_,t_,t_,t_,t_,f_]
abbrev be38_10:Array Bool:=#[t_,t_,t_,t_,t_,t_,t_,t_,t_,t_]
set_option maxHeartbeats 8000000 in
set_option maxRecDepth 100000 in
theorem laws_eqTermS.calls (k:Nat) (A0:Option Addr) (c0:Nat) (l0:List (S86)) (A1:Option Addr) (c1:Nat) (l1:List (S86)) (r:Bool) (w:World) (hr0:Kd.C k86 w A0 l0.length l0) (hc0:l0.length≤c0) (hr1:Kd.C k86 w A1 l1.length l1) (hc1:l1.length≤c1) (h:laws_eqTermS.f k l0 l1=some r) (hT_:r=true:=by first|rfl|assumption):
  Calls Tryz.prog 172 #[.slice A0 l0.length c0,.slice A1 l1.length c1] w fun e w'=>e=.returned (.bool r)∧Below w.heap.size w w':=by
 subst hT_;have hu86:=Tryz.underlying86;have HR0:=a_ hr0;have HC0:=a_ hc0;clear hr0 hc0;have HR1:=a_ hr1;have HC1:=a_ hc1;clear hr1 hc1;have HB:=a_ (Below.refl w.heap.size w);have H:(if (l0.length:Int)=(l1.length:Int) then (laws_eqTermS.l0 k l0 l1 0) else (some false))=some true:=h
 clear h;by_cases c3:(l0.length:Int)=(l1.length:Int)
 ·rw [if_pos c3] at H;obtain ⟨c3b0,c3b1⟩:=bq_ c3;have c3b2:(l0.length==l1.length)=true:=by first|simpa using c3|(simp at c3 ⊢;omega)
  clear c3;have H':=a_ H;clear H;go_enter Tryz.func172,Tryz.ntmps172;go_wp2;go_loopg [5] k (fun kq v5 w'=>∃(x5_1:Int),v5=.int .i64 x5_1∧Aside0 (laws_eqTermS.l0 kq l0 l1 x5_1=some true)∧Aside0 (kq≤k)∧Aside0 (Below w.heap.size w w'))
  case atStart=>exact ⟨(0),mq_,H',⟨Nat.le_refl _⟩,⟨mb_ HB⟩⟩
  clear H';(try clear c3b0);(try clear c3b1);(try clear c3b2);obtain ⟨x5_1,rfl,HA,HK1,HB⟩:=hrel;obtain _|k1:=gk
  ·exact absurd HA.out (by simp [laws_eqTermS.l0])
  have H:=HA.out;clear HA;simp only [laws_eqTermS.l0] at H;by_cases c4:x5_1<(l0.length:Int)
  ·rw [if_pos c4] at H;have c4b0:=ct_ c4;clear c4;by_cases c5:0≤x5_1
   case neg=>
    rw [if_neg c5] at H;cases H
   rw [if_pos c5] at H;have c5b0:=ct_ c5;clear c5;by_cases c6:x5_1<(l1.length:Int)
   case neg=>
    rw [if_neg c6] at H;cases H
   rw [if_pos c6] at H;have c6b0:=ct_ c6;clear c6;obtain ⟨t397,A7,H⟩:=ob_ H;by_cases c8:t397=true
   ·subst c8;rw [if_pos rfl] at H;have H':=a_ H;clear H;try go_wp2
    replace HB:=a_ (below_drew1 HB.out);have p395:0≤(x5_1:Int):=md_
    have q395:x5_1<(l0.length:Int):=md_
    obtain ⟨ad395,e395,hx395_0,hx395_1,hx395_2,hx395_3,hx395_4,hx395_5⟩:=at_T86 HR0.out x5_1 p395 q395;have hw395_5:=hx395_5;have hw395_4:=hx395_4;have hw395_3:=hx395_3;have hw395_2:=hx395_2;have hw395_1:=hx395_1;have hw395_0:=hx395_0;cases e395;replace hx395_0:=mx_ HB hx395_0;replace hx395_1:=mx_ HB hx395_1;replace hx395_2:=mx_ HB hx395_2;replace hx395_3:=mx_ HB hx395_3;replace hx395_4:=mx_ HB hx395_4;replace hx395_5:=mx_ HB hx395_5;replace p395:=eq_true p395;replace q395:=eq_true q395;have p396:0≤(x5_1:Int):=md_
    have q396:x5_1<(l1.length:Int):=md_
    obtain ⟨ad396,e396,hx396_0,hx396_1,hx396_2,hx396_3,hx396_4,hx396_5⟩:=at_T86 HR1.out x5_1 p396 q396;have hw396_5:=hx396_5;have hw396_4:=hx396_4;have hw396_3:=hx396_3;have hw396_2:=hx396_2;have hw396_1:=hx396_1;have hw396_0:=hx396_0;cases e396;replace hx396_0:=mx_ HB hx396_0;replace hx396_1:=mx_ HB hx396_1;replace hx396_2:=mx_ HB hx396_2;replace hx396_3:=mx_ HB hx396_3;replace hx396_4:=mx_ HB hx396_4;replace hx396_5:=mx_ HB hx396_5;replace p396:=eq_true p396;replace q396:=eq_true q396;refine start_ (n:=10) (S:=fun w'=>w'.cell? (ad395.add ((x5_1).toNat*6))=some (.int .i64 ((rd_T86 l0 x5_1).f0))∧w'.cell? ⟨(ad395.add ((x5_1).toNat*6)).block,(ad395.add ((x5_1).toNat*6)).off+1,none⟩=some (.int .i64 ((rd_T86 l0 x5_1).f1))∧w'.cell? ⟨(ad395.add ((x5_1).toNat*6)).block,(ad395.add ((x5_1).toNat*6)).off+2,none⟩=some (.string ((rd_T86 l0 x5_1).f2))∧w'.cell? ⟨(ad395.add ((x5_1).toNat*6)).block,(ad395.add ((x5_1).toNat*6)).off+3,none⟩=some (.int .i64 ((rd_T86 l0 x5_1).f3.f0))∧w'.cell? ⟨(ad395.add ((x5_1).toNat*6)).block,(ad395.add ((x5_1).toNat*6)).off+4,none⟩=some (.int .i64 ((rd_T86 l0 x5_1).f3.f1))∧w'.cell? ⟨(ad395.add ((x5_1).toNat*6)).block,(ad395.add ((x5_1).toNat*6)).off+5,none⟩=some (.string ((rd_T86 l0 x5_1).f3.f2))∧w'.cell? (ad396.add ((x5_1).toNat*6))=some (.int .i64 ((rd_T86 l1 x5_1).f0))∧w'.cell? ⟨(ad396.add ((x5_1).toNat*6)).block,(ad396.add ((x5_1).toNat*6)).off+1,none⟩=some (.int .i64 ((rd_T86 l1 x5_1).f1))∧w'.cell? ⟨(ad396.add ((x5_1).toNat*6)).block,(ad396.add ((x5_1).toNat*6)).off+2,none⟩=some (.string ((rd_T86 l1 x5_1).f2))∧w'.cell? ⟨(ad396.add ((x5_1).toNat*6)).block,(ad396.add ((x5_1).toNat*6)).off+3,none⟩=some (.int .i64 ((rd_T86 l1 x5_1).f3.f0))∧w'.cell? ⟨(ad396.add ((x5_1).toNat*6)).block,(ad396.add ((x5_1).toNat*6)).off+4,none⟩=some (.int .i64 ((rd_T86 l1 x5_1).f3.f1))∧w'.cell? ⟨(ad396.add ((x5_1).toNat*6)).block,(ad396.add ((x5_1).toNat*6)).off+5,none⟩=some (.string ((rd_T86 l1 x5_1).f3.f2))) (ds:=[]) be38_0 (by kernel_rfl) rfl rfl ⟨(mx_ HB hw395_0),(mx_ HB hw395_1),(mx_ HB hw395_2),(mx_ HB hw395_3),(mx_ HB hw395_4),(mx_ HB hw395_5),(mx_ HB hw396_0),(mx_ HB hw396_1),(mx_ HB hw396_2),(mx_ HB hw396_3),(mx_ HB hw396_4),(mx_ HB hw396_5)⟩ (fun hHeld=>?_);refine with_tabW laws_eqTermS.tab6 laws_eqTermS.bits6 (fun HT_ HW_=>?_);generalize wr.drew=w9 at HB hx395_0 hx395_1 hx395_2 hx395_3 hx395_4 hx395_5 hx396_0 hx396_1 hx396_2 hx396_3 hx396_4 hx396_5 hHeld ⊢;refine pu_ 0 17 be38_1 (any_of HT_.out (by kernel_rfl)) ?_;refine pu_ 1 18 be38_2 (any_of HT_.out (by kernel_rfl)) ?_;refine pu_ 2 19 be38_3 (any_of HT_.out (by kernel_rfl)) ?_
    refine pu_ 4 21 be38_4 (any_of HT_.out (by kernel_rfl)) ?_;refine pu_ 5 22 be38_5 (any_of HT_.out (by kernel_rfl)) ?_;refine pu_ 6 23 be38_6 (any_of HT_.out (by kernel_rfl)) ?_;refine tk_ 3 20 be38_7 (take_ofW HT_.out HW_.out (by kernel_rfl)) hHeld ?_;refine tk_ 7 24 be38_8 (take_ofW HT_.out HW_.out (by kernel_rfl)) hHeld ?_;refine one_ (i:=8) (N:=some 25) be38_9 rfl rfl (one_of HT_.out (by kernel_rfl)) (by decide) (fun K hK=>?_);refine goes_ Tryz.func188 (by kernel_rfl) rfl #[.agg #[.int .i64 ((rd_T86 l0 x5_1).f0),.int .i64 ((rd_T86 l0 x5_1).f1),.string ((rd_T86 l0 x5_1).f2),.int .i64 ((rd_T86 l0 x5_1).f3.f0),.int .i64 ((rd_T86 l0 x5_1).f3.f1),.string ((rd_T86 l0 x5_1).f3.f2)],.agg #[.int .i64 ((rd_T86 l1 x5_1).f0),.int .i64 ((rd_T86 l1 x5_1).f1),.string ((rd_T86 l1 x5_1).f2),.int .i64 ((rd_T86 l1 x5_1).f3.f0),.int .i64 ((rd_T86 l1 x5_1).f3.f1),.string ((rd_T86 l1 x5_1).f3.f2)]] (by rfl) rfl rfl mw_ ?_;with_reducible refine (laws_eqTerm.calls ((rd_T86 l0 x5_1).f0) ((rd_T86 l0 x5_1).f1) ((rd_T86 l0 x5_1).f2) ((rd_T86 l0 x5_1).f3.f0) ((rd_T86 l0 x5_1).f3.f1) ((rd_T86 l0 x5_1).f3.f2) ((rd_T86 l1 x5_1).f0) ((rd_T86 l1 x5_1).f1) ((rd_T86 l1 x5_1).f2) ((rd_T86 l1 x5_1).f3.f0) ((rd_T86 l1 x5_1).f3.f1) ((rd_T86 l1 x5_1).f3.f2) true _ A7.out).mono ?_
    rintro e w10 ⟨rfl,hb⟩;refine ⟨_,rfl,?_⟩;replace HB:=ms_ HB hb;(try clear hb);(try clear hb2);(try clear hk);(try clear hi);refine hK.out _ _ ⟨(mx_ HB hw395_0),(mx_ HB hw395_1),(mx_ HB hw395_2),(mx_ HB hw395_3),(mx_ HB hw395_4),(mx_ HB hw395_5),(mx_ HB hw396_0),(mx_ HB hw396_1),(mx_ HB hw396_2),(mx_ HB hw396_3),(mx_ HB hw396_4),(mx_ HB hw396_5)⟩ (fun hHeld=>?_);clear hK K;refine nm_ 25 ?_;refine pu_ 9 26 be38_10 (any_of HT_.out (by kernel_rfl)) ?_;refine done_ (done_of HT_.out (by kernel_rfl)) ?_;try go_wp2
    go_roundg k1
    case measure=>
     have:=HK1.out
     omega
    case rel=>exact ⟨(wrap64 (x5_1+1)),mq_,H',⟨by have:=HK1.out;omega⟩,⟨mb_ HB⟩⟩
   ·replace c8:=Bool.eq_false_iff.mpr c8;subst c8;rw [if_neg (show ¬(false=true) by decide)] at H;exact absurd (Option.some.inj H) (by decide)
  ·rw [if_neg c4] at H;have c4b0:=cf_ c4;clear c4;clear H;go_wp2;go_ret;exact ⟨me_,mb_ HB⟩
 ·rw [if_neg c3] at H;obtain ⟨c3b0,c3b1⟩:=bn_ c3;have c3b2:(l0.length==l1.length)=false:=by first|simpa using c3|(simp at c3 ⊢;omega)
  exact absurd (Option.some.inj H) (by decide)
def laws_eqPattern.f (k:Nat) (a0_0:Bool) (a0_1:ByteArray) (l0_2:List (S86)) (a1_0:Bool) (a1_1:ByteArray) (l1_2:List (S86)):Option (Bool):=if (a0_0 != a1_0)=true then (some false) else (if a0_1.toList=a1_1.toList then ((laws_eqTermS.f k l0_2 l1_2).bind fun t400=>(if t400=true then (some true) else (some false))) else (some false))
theorem laws_eqPattern.mono:∀a0 a1 a2 a3 a4 a5 k,LeO (laws_eqPattern.f k a0 a1 a2 a3 a4 a5) (laws_eqPattern.f (k+1) a0 a1 a2 a3 a4 a5):=by
 intro a0 a1 a2 a3 a4 a5 k;unfold laws_eqPattern.f
 repeat' with_reducible first|apply laws_eqTermS.mono|apply LeO.refl|apply LeO.none|refine LeO.ite ?_ ?_|refine LeO.bind ?_ (fun _=>?_)
set_option maxHeartbeats 8000000 in
set_option maxRecDepth 100000 in
theorem laws_eqPattern.calls (k:Nat) (a0_0:Bool) (a0_1:ByteArray) (A0_2:Option Addr) (c0_2:Nat) (l0_2:List (S86)) (a1_0:Bool) (a1_1:ByteArray) (A1_2:Option Addr) (c1_2:Nat) (l1_2:List (S86)) (r:Bool) (w:World) (hr0_2:Kd.C k86 w A0_2 l0_2.length l0_2) (hc0_2:l0_2.length≤c0_2) (hr1_2:Kd.C k86 w A1_2 l1_2.length l1_2) (hc1_2:l1_2.length≤c1_2) (h:laws_eqPattern.f k a0_0 a0_1 l0_2 a1_0 a1_1 l1_2=some r) (hT_:r=true:=by first|rfl|assumption):
  Calls Tryz.prog 140 #[.agg #[.bool a0_0,.string a0_1,.slice A0_2 l0_2.length c0_2],.agg #[.bool a1_0,.string a1_1,.slice A1_2 l1_2.length c1_2]] w fun e w'=>e=.returned (.bool r)∧Below w.heap.size w w':=by
 subst hT_;have hu42:=Tryz.underlying42;have HR0_2:=a_ hr0_2;have HC0_2:=a_ hc0_2;clear hr0_2 hc0_2;have HR1_2:=a_ hr1_2;have HC1_2:=a_ hc1_2;clear hr1_2 hc1_2;have HB:=a_ (Below.refl w.heap.size w);have H:=h;unfold laws_eqPattern.f at H
 clear h;by_cases c3:(a0_0 != a1_0)=true
 ·rw [if_pos c3] at H;have c3b0:(a0_0 != a1_0)=true:=c3
  (try (have c3b1:decide (a0_0=a1_0)=false:=by simpa using c3));(try (have c3b2:(a0_0==a1_0)=false:=by simpa using c3));(try (have c3b3:¬(a0_0=a1_0):=by simpa using c3));clear c3;exact absurd (Option.some.inj H) (by decide)
 ·rw [if_neg c3] at H;have c3b0:(a0_0 != a1_0)=false:=by simpa using c3
  (try (have c3b1:decide (a0_0=a1_0)=true:=by simpa using c3));(try (have c3b2:(a0_0==a1_0)=true:=by simpa using c3));clear c3;by_cases c4:a0_1.toList=a1_1.toList
  case neg=>
   rw [if_neg c4] at H;obtain ⟨c4b0,c4b1⟩:=bn_ c4;exact absurd (Option.some.inj H) (by decide)
  rw [if_pos c4] at H;obtain ⟨c4b0,c4b1⟩:=bq_ c4;clear c4;obtain ⟨t400,A5,H⟩:=ob_ H;by_cases c6:t400=true
  ·subst c6;rw [if_pos rfl] at H;clear H;go_enter Tryz.func140,Tryz.ntmps140;go_wp2_with (first|((with_reducible refine gate_dst (N:=2) rfl ?_);refine bh_ 2 #[.bool a0_0,.string a0_1,.slice A0_2 l0_2.length c0_2] 42 HB ?_;intro gb398 hg wx BK398 GE398 hb;replace HB:=ms_ HB hb;clear hb hg)|((with_reducible refine gate_dst (N:=3) rfl ?_);refine bh_ 3 #[.bool a1_0,.string a1_1,.slice A1_2 l1_2.length c1_2] 42 HB ?_;intro gb399 hg wx BK399 GE399 hb;obtain ⟨NB398_399,NB399_398⟩:=mn_ BK398 hg;replace BK398:=mk_ BK398 hb;replace HB:=ms_ HB hb;clear hb hg;have nNB398_399:=NB398_399.out;have nNB399_398:=NB399_398.out;replace hz398:=cz3 BK398;replace hz399:=cz3 BK399)|((with_reducible refine gate_callee (f:=172) rfl ?_);refine goesL_ (some 19) rfl rfl Tryz.func172 (by kernel_rfl) rfl #[.slice A0_2 l0_2.length c0_2,.slice A1_2 l1_2.length c1_2] rfl mw_ ?_;(with_reducible refine (laws_eqTermS.calls k _ _ l0_2 _ _ l1_2 true _ ?side1 HC0_2.out ?side3 HC1_2.out A5.out).mono ?_);(case side1=>exact mt_ HR0_2 HB);(case side3=>exact mt_ HR1_2 HB);rintro e wx ⟨rfl,hb⟩;refine ⟨_,rfl,?_⟩;replace BK398:=mk_ BK398 hb;replace BK399:=mk_ BK399 hb;replace HB:=ms_ HB hb;(try clear hb)));go_ret;exact ⟨me_,mb_ HB⟩
  ·replace c6:=Bool.eq_false_iff.mpr c6;subst c6;rw [if_neg (show ¬(false=true) by decide)] at H;exact absurd (Option.some.inj H) (by decide)
end Go.Proofs.YtahambloheoebaaGreatDoor.P
namespace Go.Proofs.YtahambloheoebaaGreatDoor.P
open Go.Proofs.YtahambloheoebaaGreatDoorX
open Go.RowKit Go.Proofs.YtahambloheoebaaGreatDoorW.PrintWords Go.Proofs.YtahambloheoebaaGreatDoorW.PrintLast Go.Proofs.YtahambloheoebaaGreatDoorW.PrintMore
attribute [local go_sem] max2_int min2_int max_two min_two max_three min_three max_four min_four
set_option linter.unusedVariables false
set_option linter.unusedSimpArgs false
def laws_szValue.f (a0_0:Int) (a0_1:Int) (a0_2:ByteArray) (a1:Int):Option (Int):=if (wrap64 (a1-(a0_2.size:Int)))<0 then (some (-1)) else (some (wrap64 (a1-(a0_2.size:Int))))
theorem uea4_0 {p:Prop} (h:p:=by
 clear c3;obtain rfl:=oi_ H;go_enter Tryz.func157,Tryz.ntmps157;go_wp2_with (first|((with_reducible refine gate_dst (N:=2) rfl ?_);refine bh_ 2 #[.int .i64 a0_0,.int .i64 a0_1,.string a0_2] 183 HB ?_;intro gb101 hg wx BK101 GE101 hb;replace HB:=ms_ HB hb;clear hb hg;replace hz101:=cz3 BK101));go_ret;exact ⟨me_,mb_ HB⟩):p:=h
set_option maxHeartbeats 8000000 in
set_option maxRecDepth 100000 in
theorem laws_szValue.calls (a0_0:Int) (a0_1:Int) (a0_2:ByteArray) (a1:Int) (r:Int) (w:World) (h:laws_szValue.f a0_0 a0_1 a0_2 a1=some r):
  Calls Tryz.prog 157 #[.agg #[.int .i64 a0_0,.int .i64 a0_1,.string a0_2],.int .i64 a1] w fun e w'=>e=.returned (.int .i64 r)∧Below w.heap.size w w':=by
 have hu183:=Tryz.underlying183;have HB:=a_ (Below.refl w.heap.size w);have H:=h;unfold laws_szValue.f at H
 clear h;by_cases c3:(wrap64 (a1-(a0_2.size:Int)))<0
 ·rw [if_pos c3] at H;have c3b0:=ct_ c3;exact uea4_0
 ·rw [if_neg c3] at H;have c3b0:=cf_ c3;exact uea4_0
def laws_szTerm.f (a0_0:Int) (a0_1:Int) (a0_2:ByteArray) (a0_3:Int) (a0_4:Int) (a0_5:ByteArray) (a1:Int):Option (Int):=if (wrap64 (a1-(a0_2.size:Int)))<0 then (some (-1)) else ((laws_szValue.f a0_3 a0_4 a0_5 (wrap64 (a1-(a0_2.size:Int)))).bind fun t103=>(if t103<0 then (some (-1)) else (some t103)))
theorem uea4_1 {p:Prop} (h:p:=by
 obtain rfl:=oi_ H;go_enter Tryz.func181,Tryz.ntmps181;go_wp2_with (first|((with_reducible refine gate_dst (N:=2) rfl ?_);refine bh_ 2 #[.int .i64 a0_0,.int .i64 a0_1,.string a0_2,.int .i64 a0_3,.int .i64 a0_4,.string a0_5] 253 HB ?_;intro gb102 hg wx BK102 GE102 hb;replace HB:=ms_ HB hb;clear hb hg;replace hz102:=cz6 BK102)|((with_reducible refine gate_callee (f:=157) rfl ?_);refine goesL_ (some 15) rfl rfl Tryz.func157 (by kernel_rfl) rfl #[.agg #[.int .i64 a0_3,.int .i64 a0_4,.string a0_5],.int .i64 (wrap64 (a1-(a0_2.size:Int)))] rfl mw_ ?_;(with_reducible refine (laws_szValue.calls a0_3 a0_4 a0_5 (wrap64 (a1-(a0_2.size:Int))) t103 _ A6.out).mono ?_);rintro e wx ⟨rfl,hb⟩;refine ⟨_,rfl,?_⟩;replace BK102:=mk_ BK102 hb;replace HB:=ms_ HB hb;(try clear hb)));go_ret;exact ⟨me_,mb_ HB⟩):p:=h
set_option maxHeartbeats 8000000 in
set_option maxRecDepth 100000 in
theorem laws_szTerm.calls (a0_0:Int) (a0_1:Int) (a0_2:ByteArray) (a0_3:Int) (a0_4:Int) (a0_5:ByteArray) (a1:Int) (r:Int) (w:World) (h:laws_szTerm.f a0_0 a0_1 a0_2 a0_3 a0_4 a0_5 a1=some r):
  Calls Tryz.prog 181 #[.agg #[.int .i64 a0_0,.int .i64 a0_1,.string a0_2,.int .i64 a0_3,.int .i64 a0_4,.string a0_5],.int .i64 a1] w fun e w'=>e=.returned (.int .i64 r)∧Below w.heap.size w w':=by
 have hu253:=Tryz.underlying253;have hu183:=Tryz.underlying183;have HB:=a_ (Below.refl w.heap.size w);have H:=h;unfold laws_szTerm.f at H
 clear h;by_cases c3:(wrap64 (a1-(a0_2.size:Int)))<0
 ·rw [if_pos c3] at H;have c3b0:=ct_ c3;clear c3;exact uea4_1
 ·rw [if_neg c3] at H;have c3b0:=cf_ c3;clear c3;obtain ⟨t103,A6,H⟩:=ob_ H;by_cases c7:t103<0
  ·rw [if_pos c7] at H;have c7b0:=ct_ c7;clear c7;exact uea4_1
  ·rw [if_neg c7] at H;have c7b0:=cf_ c7;clear c7;exact uea4_1
def laws_szTermS.l0:Nat→List (S253)→Int→Int→Option (Int)
 | 0,_,_,_=>none
 | k+1,x0,x1,x5=>if x5<(x0.length:Int) then (if 0≤x5 then ((laws_szTerm.f ((rd_T253 x0 x5).f0) ((rd_T253 x0 x5).f1) ((rd_T253 x0 x5).f2) ((rd_T253 x0 x5).f3.f0) ((rd_T253 x0 x5).f3.f1) ((rd_T253 x0 x5).f3.f2) x1).bind fun t105=>(if t105<0 then (some (-1)) else (laws_szTermS.l0 k x0 t105 (wrap64 (x5+1))))) else (none)) else (some x1)
def laws_szTermS.f (k:Nat) (l0:List (S253)) (a1:Int):Option (Int):=if (wrap64 (a1-(l0.length:Int)))<0 then (some (-1)) else (laws_szTermS.l0 k l0 (wrap64 (a1-(l0.length:Int))) 0)
theorem laws_szTermS.mono_l:∀k,(∀y0 y1 y2,LeO (laws_szTermS.l0 k y0 y1 y2) (laws_szTermS.l0 (k+1) y0 y1 y2))
 | 0=>fun _ _ _ r h=>by simp [laws_szTermS.l0] at h
 | k+1=>by
  have ih0:=laws_szTermS.mono_l k
  ·intro y0 y1 y2;unfold laws_szTermS.l0
   repeat' with_reducible first|apply ih0|apply LeO.refl|apply LeO.none|refine LeO.ite ?_ ?_|refine LeO.bind ?_ (fun _=>?_)
theorem laws_szTermS.mono:∀a0 a1 k,LeO (laws_szTermS.f k a0 a1) (laws_szTermS.f (k+1) a0 a1):=by
 intro a0 a1 k;have ih0:=laws_szTermS.mono_l k;unfold laws_szTermS.f
 repeat' with_reducible first|apply ih0|apply LeO.refl|apply LeO.none|refine LeO.ite ?_ ?_|refine LeO.bind ?_ (fun _=>?_)
set_option maxHeartbeats 8000000 in
set_option maxRecDepth 100000 in
theorem laws_szTermS.calls (k:Nat) (A0:Option Addr) (c0:Nat) (l0:List (S253)) (a1:Int) (r:Int) (w:World) (hr0:Kd.C k253 w A0 l0.length l0) (hc0:l0.length≤c0) (h:laws_szTermS.f k l0 a1=some r):
  Calls Tryz.prog 156 #[.slice A0 l0.length c0,.int .i64 a1] w fun e w'=>e=.returned (.int .i64 r)∧Below w.heap.size w w':=by
 have hu253:=Tryz.underlying253;have HR0:=a_ hr0;have HC0:=a_ hc0;clear hr0 hc0;have HB:=a_ (Below.refl w.heap.size w);have H:=h;unfold laws_szTermS.f at H
 clear h;by_cases c3:(wrap64 (a1-(l0.length:Int)))<0
 ·rw [if_pos c3] at H;have c3b0:=ct_ c3;clear c3;obtain rfl:=oi_ H;go_enter Tryz.func156,Tryz.ntmps156;go_wp2;go_ret;exact ⟨me_,mb_ HB⟩
 ·rw [if_neg c3] at H;have c3b0:=cf_ c3;clear c3;have H':=a_ H;clear H;go_enter Tryz.func156,Tryz.ntmps156;go_wp2;go_loopg [1,5] k (fun kq v1 v5 w'=>∃(x1_1:Int) (x5_1:Int),v1=.int .i64 x1_1∧v5=.int .i64 x5_1∧Aside0 (laws_szTermS.l0 kq l0 x1_1 x5_1=some r)∧Aside0 (kq≤k)∧Aside0 (Below w.heap.size w w'))
  case atStart=>exact ⟨(wrap64 (a1-(l0.length:Int))),(0),mq_,mq_,H',⟨Nat.le_refl _⟩,⟨mb_ HB⟩⟩
  clear H';(try clear c3b0);obtain ⟨x1_1,x5_1,rfl,rfl,HA,HK1,HB⟩:=hrel;obtain _|k1:=gk
  ·exact absurd HA.out (by simp [laws_szTermS.l0])
  have H:=HA.out;clear HA;simp only [laws_szTermS.l0] at H;by_cases c4:x5_1<(l0.length:Int)
  ·rw [if_pos c4] at H;have c4b0:=ct_ c4;clear c4;by_cases c5:0≤x5_1
   case neg=>
    rw [if_neg c5] at H;cases H
   rw [if_pos c5] at H;have c5b0:=ct_ c5;clear c5;obtain ⟨t105,A6,H⟩:=ob_ H;by_cases c7:t105<0
   ·rw [if_pos c7] at H;have c7b0:=ct_ c7;clear c7;obtain rfl:=oi_ H;have p104:0≤(x5_1:Int):=md_
    have q104:x5_1<(l0.length:Int):=md_
    obtain ⟨ad104,e104,hx104_0,hx104_1,hx104_2,hx104_3,hx104_4,hx104_5⟩:=at_T253 HR0.out x5_1 p104 q104;cases e104;replace hx104_0:=mx_ HB hx104_0;replace hx104_1:=mx_ HB hx104_1;replace hx104_2:=mx_ HB hx104_2;replace hx104_3:=mx_ HB hx104_3;replace hx104_4:=mx_ HB hx104_4;replace hx104_5:=mx_ HB hx104_5;replace p104:=eq_true p104;replace q104:=eq_true q104;go_wp2_with (first|((with_reducible refine gate_callee (f:=181) rfl ?_);refine goesL_ (some 23) rfl rfl Tryz.func181 (by kernel_rfl) rfl #[.agg #[.int .i64 ((rd_T253 l0 x5_1).f0),.int .i64 ((rd_T253 l0 x5_1).f1),.string ((rd_T253 l0 x5_1).f2),.int .i64 ((rd_T253 l0 x5_1).f3.f0),.int .i64 ((rd_T253 l0 x5_1).f3.f1),.string ((rd_T253 l0 x5_1).f3.f2)],.int .i64 x1_1] rfl mw_ ?_;(with_reducible refine (laws_szTerm.calls ((rd_T253 l0 x5_1).f0) ((rd_T253 l0 x5_1).f1) ((rd_T253 l0 x5_1).f2) ((rd_T253 l0 x5_1).f3.f0) ((rd_T253 l0 x5_1).f3.f1) ((rd_T253 l0 x5_1).f3.f2) x1_1 t105 _ A6.out).mono ?_);rintro e wx ⟨rfl,hb⟩;refine ⟨_,rfl,?_⟩;replace HB:=ms_ HB hb;(try clear hb)));go_ret;exact ⟨me_,mb_ HB⟩
   ·rw [if_neg c7] at H;have c7b0:=cf_ c7;clear c7;have H':=a_ H;clear H;have p104:0≤(x5_1:Int):=md_
    have q104:x5_1<(l0.length:Int):=md_
    obtain ⟨ad104,e104,hx104_0,hx104_1,hx104_2,hx104_3,hx104_4,hx104_5⟩:=at_T253 HR0.out x5_1 p104 q104;cases e104;replace hx104_0:=mx_ HB hx104_0;replace hx104_1:=mx_ HB hx104_1;replace hx104_2:=mx_ HB hx104_2;replace hx104_3:=mx_ HB hx104_3;replace hx104_4:=mx_ HB hx104_4;replace hx104_5:=mx_ HB hx104_5;replace p104:=eq_true p104;replace q104:=eq_true q104;go_wp2_with (first|((with_reducible refine gate_callee (f:=181) rfl ?_);refine goesL_ (some 23) rfl rfl Tryz.func181 (by kernel_rfl) rfl #[.agg #[.int .i64 ((rd_T253 l0 x5_1).f0),.int .i64 ((rd_T253 l0 x5_1).f1),.string ((rd_T253 l0 x5_1).f2),.int .i64 ((rd_T253 l0 x5_1).f3.f0),.int .i64 ((rd_T253 l0 x5_1).f3.f1),.string ((rd_T253 l0 x5_1).f3.f2)],.int .i64 x1_1] rfl mw_ ?_;(with_reducible refine (laws_szTerm.calls ((rd_T253 l0 x5_1).f0) ((rd_T253 l0 x5_1).f1) ((rd_T253 l0 x5_1).f2) ((rd_T253 l0 x5_1).f3.f0) ((rd_T253 l0 x5_1).f3.f1) ((rd_T253 l0 x5_1).f3.f2) x1_1 t105 _ A6.out).mono ?_);rintro e wx ⟨rfl,hb⟩;refine ⟨_,rfl,?_⟩;replace HB:=ms_ HB hb;(try clear hb)));go_roundg k1
    case measure=>
     have:=HK1.out
     omega
    case rel=>exact ⟨(t105),(wrap64 (x5_1+1)),mq_,mq_,H',⟨by have:=HK1.out;omega⟩,⟨mb_ HB⟩⟩
  ·rw [if_neg c4] at H;have c4b0:=cf_ c4;clear c4;obtain rfl:=oi_ H;go_wp2;go_ret;exact ⟨me_,mb_ HB⟩
def laws_szPattern.f (k:Nat) (a0_0:Bool) (a0_1:ByteArray) (l0_2:List (S253)) (a1:Int):Option (Int):=if (wrap64 (a1-(a0_1.size:Int)))<0 then (some (-1)) else ((laws_szTermS.f k l0_2 (wrap64 (a1-(a0_1.size:Int)))).bind fun t107=>(if t107<0 then (some (-1)) else (some t107)))
theorem laws_szPattern.mono:∀a0 a1 a2 a3 k,LeO (laws_szPattern.f k a0 a1 a2 a3) (laws_szPattern.f (k+1) a0 a1 a2 a3):=by
 intro a0 a1 a2 a3 k;unfold laws_szPattern.f
 repeat' with_reducible first|apply laws_szTermS.mono|apply LeO.refl|apply LeO.none|refine LeO.ite ?_ ?_|refine LeO.bind ?_ (fun _=>?_)
theorem uea4_2 {p:Prop} (h:p:=by
 obtain rfl:=oi_ H;go_enter Tryz.func125,Tryz.ntmps125;go_wp2_with (first|((with_reducible refine gate_dst (N:=2) rfl ?_);refine bh_ 2 #[.bool a0_0,.string a0_1,.slice A0_2 l0_2.length c0_2] 181 HB ?_;intro gb106 hg wx BK106 GE106 hb;replace HB:=ms_ HB hb;clear hb hg;replace hz106:=cz3 BK106)|((with_reducible refine gate_callee (f:=156) rfl ?_);refine goesL_ (some 15) rfl rfl Tryz.func156 (by kernel_rfl) rfl #[.slice A0_2 l0_2.length c0_2,.int .i64 (wrap64 (a1-(a0_1.size:Int)))] rfl mw_ ?_;(with_reducible refine (laws_szTermS.calls k _ _ l0_2 (wrap64 (a1-(a0_1.size:Int))) t107 _ ?side1 HC0_2.out A6.out).mono ?_);(case side1=>exact mt_ HR0_2 HB);rintro e wx ⟨rfl,hb⟩;refine ⟨_,rfl,?_⟩;replace BK106:=mk_ BK106 hb;replace HB:=ms_ HB hb;(try clear hb)));go_ret;exact ⟨me_,mb_ HB⟩):p:=h
set_option maxHeartbeats 8000000 in
set_option maxRecDepth 100000 in
theorem laws_szPattern.calls (k:Nat) (a0_0:Bool) (a0_1:ByteArray) (A0_2:Option Addr) (c0_2:Nat) (l0_2:List (S253)) (a1:Int) (r:Int) (w:World) (hr0_2:Kd.C k253 w A0_2 l0_2.length l0_2) (hc0_2:l0_2.length≤c0_2) (h:laws_szPattern.f k a0_0 a0_1 l0_2 a1=some r):
  Calls Tryz.prog 125 #[.agg #[.bool a0_0,.string a0_1,.slice A0_2 l0_2.length c0_2],.int .i64 a1] w fun e w'=>e=.returned (.int .i64 r)∧Below w.heap.size w w':=by
 have hu181:=Tryz.underlying181;have HR0_2:=a_ hr0_2;have HC0_2:=a_ hc0_2;clear hr0_2 hc0_2;have HB:=a_ (Below.refl w.heap.size w);have H:=h;unfold laws_szPattern.f at H
 clear h;by_cases c3:(wrap64 (a1-(a0_1.size:Int)))<0
 ·rw [if_pos c3] at H;have c3b0:=ct_ c3;clear c3;exact uea4_2
 ·rw [if_neg c3] at H;have c3b0:=cf_ c3;clear c3;obtain ⟨t107,A6,H⟩:=ob_ H;by_cases c7:t107<0
  ·rw [if_pos c7] at H;have c7b0:=ct_ c7;clear c7;exact uea4_2
  ·rw [if_neg c7] at H;have c7b0:=cf_ c7;clear c7;exact uea4_2
def laws_szPatternS.l0:Nat→List (S181)→Int→Int→Option (Int)
 | 0,_,_,_=>none
 | k+1,x0,x1,x5=>if x5<(x0.length:Int) then (if 0≤x5 then ((laws_szPattern.f k ((rd_T181 x0 x5).f0) ((rd_T181 x0 x5).f1) ((rd_T181 x0 x5).f2) x1).bind fun t109=>(if t109<0 then (some (-1)) else (laws_szPatternS.l0 k x0 t109 (wrap64 (x5+1))))) else (none)) else (some x1)
def laws_szPatternS.f (k:Nat) (l0:List (S181)) (a1:Int):Option (Int):=if (wrap64 (a1-(l0.length:Int)))<0 then (some (-1)) else (laws_szPatternS.l0 k l0 (wrap64 (a1-(l0.length:Int))) 0)
theorem laws_szPatternS.mono_l:∀k,(∀y0 y1 y2,LeO (laws_szPatternS.l0 k y0 y1 y2) (laws_szPatternS.l0 (k+1) y0 y1 y2))
 | 0=>fun _ _ _ r h=>by simp [laws_szPatternS.l0] at h
 | k+1=>by
  have ih0:=laws_szPatternS.mono_l k
  ·intro y0 y1 y2;unfold laws_szPatternS.l0
   repeat' with_reducible first|apply ih0|apply laws_szPattern.mono|apply LeO.refl|apply LeO.none|refine LeO.ite ?_ ?_|refine LeO.bind ?_ (fun _=>?_)
theorem laws_szPatternS.mono:∀a0 a1 k,LeO (laws_szPatternS.f k a0 a1) (laws_szPatternS.f (k+1) a0 a1):=by
 intro a0 a1 k;have ih0:=laws_szPatternS.mono_l k;unfold laws_szPatternS.f
 repeat' with_reducible first|apply ih0|apply laws_szPattern.mono|apply LeO.refl|apply LeO.none|refine LeO.ite ?_ ?_|refine LeO.bind ?_ (fun _=>?_)
set_option maxHeartbeats 8000000 in
set_option maxRecDepth 100000 in
theorem laws_szPatternS.calls (k:Nat) (A0:Option Addr) (c0:Nat) (l0:List (S181)) (a1:Int) (r:Int) (w:World) (hr0:Kd.C k181 w A0 l0.length l0) (hc0:l0.length≤c0) (h:laws_szPatternS.f k l0 a1=some r):
  Calls Tryz.prog 76 #[.slice A0 l0.length c0,.int .i64 a1] w fun e w'=>e=.returned (.int .i64 r)∧Below w.heap.size w w':=by
 have hu181:=Tryz.underlying181;have HR0:=a_ hr0;have HC0:=a_ hc0;clear hr0 hc0;have HB:=a_ (Below.refl w.heap.size w);have H:=h;unfold laws_szPatternS.f at H
 clear h;by_cases c3:(wrap64 (a1-(l0.length:Int)))<0
 ·rw [if_pos c3] at H;have c3b0:=ct_ c3;clear c3;obtain rfl:=oi_ H;go_enter Tryz.func76,Tryz.ntmps76;go_wp2;go_ret;exact ⟨me_,mb_ HB⟩
 ·rw [if_neg c3] at H;have c3b0:=cf_ c3;clear c3;have H':=a_ H;clear H;go_enter Tryz.func76,Tryz.ntmps76;go_wp2;go_loopg [1,5] k (fun kq v1 v5 w'=>∃(x1_1:Int) (x5_1:Int),v1=.int .i64 x1_1∧v5=.int .i64 x5_1∧Aside0 (laws_szPatternS.l0 kq l0 x1_1 x5_1=some r)∧Aside0 (kq≤k)∧Aside0 (Below w.heap.size w w'))
  case atStart=>exact ⟨(wrap64 (a1-(l0.length:Int))),(0),mq_,mq_,H',⟨Nat.le_refl _⟩,⟨mb_ HB⟩⟩
  clear H';(try clear c3b0);obtain ⟨x1_1,x5_1,rfl,rfl,HA,HK1,HB⟩:=hrel;obtain _|k1:=gk
  ·exact absurd HA.out (by simp [laws_szPatternS.l0])
  have H:=HA.out;clear HA;simp only [laws_szPatternS.l0] at H;by_cases c4:x5_1<(l0.length:Int)
  ·rw [if_pos c4] at H;have c4b0:=ct_ c4;clear c4;by_cases c5:0≤x5_1
   case neg=>
    rw [if_neg c5] at H;cases H
   rw [if_pos c5] at H;have c5b0:=ct_ c5;clear c5;obtain ⟨t109,A6,H⟩:=ob_ H;by_cases c7:t109<0
   ·rw [if_pos c7] at H;have c7b0:=ct_ c7;clear c7;obtain rfl:=oi_ H;have p108:0≤(x5_1:Int):=md_
    have q108:x5_1<(l0.length:Int):=md_
    obtain ⟨ad108,A108_2,c108_2,e108,hx108_0,hx108_1,hx108_2,hl108_2,hi108_2⟩:=at_T181 HR0.out x5_1 p108 q108;cases e108;replace hx108_0:=mx_ HB hx108_0;replace hx108_1:=mx_ HB hx108_1;replace hx108_2:=mx_ HB hx108_2;have HR108_2:=a_ hi108_2;have HC108_2:=a_ hl108_2;clear hi108_2 hl108_2;replace p108:=eq_true p108;replace q108:=eq_true q108;go_wp2_with (first|((with_reducible refine gate_callee (f:=125) rfl ?_);refine goesL_ (some 23) rfl rfl Tryz.func125 (by kernel_rfl) rfl #[.agg #[.bool ((rd_T181 l0 x5_1).f0),.string ((rd_T181 l0 x5_1).f1),.slice A108_2 ((rd_T181 l0 x5_1).f2).length c108_2],.int .i64 x1_1] rfl mw_ ?_;(with_reducible refine (laws_szPattern.calls k1 ((rd_T181 l0 x5_1).f0) ((rd_T181 l0 x5_1).f1) _ _ ((rd_T181 l0 x5_1).f2) x1_1 t109 _ ?side1 HC108_2.out A6.out).mono ?_);(case side1=>exact mt_ HR108_2 HB);rintro e wx ⟨rfl,hb⟩;refine ⟨_,rfl,?_⟩;replace HB:=ms_ HB hb;(try clear hb)));go_ret;exact ⟨me_,mb_ HB⟩
   ·rw [if_neg c7] at H;have c7b0:=cf_ c7;clear c7;have H':=a_ H;clear H;have p108:0≤(x5_1:Int):=md_
    have q108:x5_1<(l0.length:Int):=md_
    obtain ⟨ad108,A108_2,c108_2,e108,hx108_0,hx108_1,hx108_2,hl108_2,hi108_2⟩:=at_T181 HR0.out x5_1 p108 q108;cases e108;replace hx108_0:=mx_ HB hx108_0;replace hx108_1:=mx_ HB hx108_1;replace hx108_2:=mx_ HB hx108_2;have HR108_2:=a_ hi108_2;have HC108_2:=a_ hl108_2;clear hi108_2 hl108_2;replace p108:=eq_true p108;replace q108:=eq_true q108;go_wp2_with (first|((with_reducible refine gate_callee (f:=125) rfl ?_);refine goesL_ (some 23) rfl rfl Tryz.func125 (by kernel_rfl) rfl #[.agg #[.bool ((rd_T181 l0 x5_1).f0),.string ((rd_T181 l0 x5_1).f1),.slice A108_2 ((rd_T181 l0 x5_1).f2).length c108_2],.int .i64 x1_1] rfl mw_ ?_;(with_reducible refine (laws_szPattern.calls k1 ((rd_T181 l0 x5_1).f0) ((rd_T181 l0 x5_1).f1) _ _ ((rd_T181 l0 x5_1).f2) x1_1 t109 _ ?side1 HC108_2.out A6.out).mono ?_);(case side1=>exact mt_ HR108_2 HB);rintro e wx ⟨rfl,hb⟩;refine ⟨_,rfl,?_⟩;replace HB:=ms_ HB hb;(try clear hb)));go_roundg k1
    case measure=>
     have:=HK1.out
     omega
    case rel=>exact ⟨(t109),(wrap64 (x5_1+1)),mq_,mq_,H',⟨by have:=HK1.out;omega⟩,⟨mb_ HB⟩⟩
  ·rw [if_neg c4] at H;have c4b0:=cf_ c4;clear c4;obtain rfl:=oi_ H;go_wp2;go_ret;exact ⟨me_,mb_ HB⟩
def laws_szExpr.f (a0_0:Int) (a0_1:Int) (a0_2:ByteArray) (a0_3:Int) (a0_4:Int) (a0_5:ByteArray) (a0_6:Int) (a0_7:Int) (a1:Int):Option (Int):=if (wrap64 (a1-(a0_2.size:Int)))<0 then (some (-1)) else ((laws_szValue.f a0_3 a0_4 a0_5 (wrap64 (a1-(a0_2.size:Int)))).bind fun t111=>(if t111<0 then (some (-1)) else (some t111)))
theorem uea4_3 {p:Prop} (h:p:=by
 obtain rfl:=oi_ H;go_enter Tryz.func126,Tryz.ntmps126;go_wp2_with (first|((with_reducible refine gate_dst (N:=2) rfl ?_);refine bh_ 2 #[.int .i64 a0_0,.int .u8 a0_1,.string a0_2,.int .i64 a0_3,.int .i64 a0_4,.string a0_5,.int .i64 a0_6,.int .i64 a0_7] 185 HB ?_;intro gb110 hg wx BK110 GE110 hb;replace HB:=ms_ HB hb;clear hb hg;replace hz110:=cz8 BK110)|((with_reducible refine gate_callee (f:=157) rfl ?_);refine goesL_ (some 15) rfl rfl Tryz.func157 (by kernel_rfl) rfl #[.agg #[.int .i64 a0_3,.int .i64 a0_4,.string a0_5],.int .i64 (wrap64 (a1-(a0_2.size:Int)))] rfl mw_ ?_;(with_reducible refine (laws_szValue.calls a0_3 a0_4 a0_5 (wrap64 (a1-(a0_2.size:Int))) t111 _ A6.out).mono ?_);rintro e wx ⟨rfl,hb⟩;refine ⟨_,rfl,?_⟩;replace BK110:=mk_ BK110 hb;replace HB:=ms_ HB hb;(try clear hb)));go_ret;exact ⟨me_,mb_ HB⟩):p:=h
set_option maxHeartbeats 8000000 in
set_option maxRecDepth 100000 in
theorem laws_szExpr.calls (a0_0:Int) (a0_1:Int) (a0_2:ByteArray) (a0_3:Int) (a0_4:Int) (a0_5:ByteArray) (a0_6:Int) (a0_7:Int) (a1:Int) (r:Int) (w:World) (h:laws_szExpr.f a0_0 a0_1 a0_2 a0_3 a0_4 a0_5 a0_6 a0_7 a1=some r):
  Calls Tryz.prog 126 #[.agg #[.int .i64 a0_0,.int .u8 a0_1,.string a0_2,.int .i64 a0_3,.int .i64 a0_4,.string a0_5,.int .i64 a0_6,.int .i64 a0_7],.int .i64 a1] w fun e w'=>e=.returned (.int .i64 r)∧Below w.heap.size w w':=by
 have hu185:=Tryz.underlying185;have hu183:=Tryz.underlying183;have HB:=a_ (Below.refl w.heap.size w);have H:=h;unfold laws_szExpr.f at H
 clear h;by_cases c3:(wrap64 (a1-(a0_2.size:Int)))<0
 ·rw [if_pos c3] at H;have c3b0:=ct_ c3;clear c3;exact uea4_3
 ·rw [if_neg c3] at H;have c3b0:=cf_ c3;clear c3;obtain ⟨t111,A6,H⟩:=ob_ H;by_cases c7:t111<0
  ·rw [if_pos c7] at H;have c7b0:=ct_ c7;clear c7;exact uea4_3
  ·rw [if_neg c7] at H;have c7b0:=cf_ c7;clear c7;exact uea4_3
def laws_szExprS.l0:Nat→List (S185)→Int→Int→Option (Int)
 | 0,_,_,_=>none
 | k+1,x0,x1,x5=>if x5<(x0.length:Int) then (if 0≤x5 then ((laws_szExpr.f ((rd_T185 x0 x5).f0) ((rd_T185 x0 x5).f1) ((rd_T185 x0 x5).f2) ((rd_T185 x0 x5).f3.f0) ((rd_T185 x0 x5).f3.f1) ((rd_T185 x0 x5).f3.f2) ((rd_T185 x0 x5).f4) ((rd_T185 x0 x5).f5) x1).bind fun t113=>(if t113<0 then (some (-1)) else (laws_szExprS.l0 k x0 t113 (wrap64 (x5+1))))) else (none)) else (some x1)
def laws_szExprS.f (k:Nat) (l0:List (S185)) (a1:Int):Option (Int):=if (wrap64 (a1-(l0.length:Int)))<0 then (some (-1)) else (laws_szExprS.l0 k l0 (wrap64 (a1-(l0.length:Int))) 0)
theorem laws_szExprS.mono_l:∀k,(∀y0 y1 y2,LeO (laws_szExprS.l0 k y0 y1 y2) (laws_szExprS.l0 (k+1) y0 y1 y2))
 | 0=>fun _ _ _ r h=>by simp [laws_szExprS.l0] at h
 | k+1=>by
  have ih0:=laws_szExprS.mono_l k
  ·intro y0 y1 y2;unfold laws_szExprS.l0
   repeat' with_reducible first|apply ih0|apply LeO.refl|apply LeO.none|refine LeO.ite ?_ ?_|refine LeO.bind ?_ (fun _=>?_)
theorem laws_szExprS.mono:∀a0 a1 k,LeO (laws_szExprS.f k a0 a1) (laws_szExprS.f (k+1) a0 a1):=by
 intro a0 a1 k;have ih0:=laws_szExprS.mono_l k;unfold laws_szExprS.f
 repeat' with_reducible first|apply ih0|apply LeO.refl|apply LeO.none|refine LeO.ite ?_ ?_|refine LeO.bind ?_ (fun _=>?_)
set_option maxHeartbeats 8000000 in
set_option maxRecDepth 100000 in
theorem laws_szExprS.calls (k:Nat) (A0:Option Addr) (c0:Nat) (l0:List (S185)) (a1:Int) (r:Int) (w:World) (hr0:Kd.C k185 w A0 l0.length l0) (hc0:l0.length≤c0) (h:laws_szExprS.f k l0 a1=some r):
  Calls Tryz.prog 77 #[.slice A0 l0.length c0,.int .i64 a1] w fun e w'=>e=.returned (.int .i64 r)∧Below w.heap.size w w':=by
 have hu185:=Tryz.underlying185;have HR0:=a_ hr0;have HC0:=a_ hc0;clear hr0 hc0;have HB:=a_ (Below.refl w.heap.size w);have H:=h;unfold laws_szExprS.f at H
 clear h;by_cases c3:(wrap64 (a1-(l0.length:Int)))<0
 ·rw [if_pos c3] at H;have c3b0:=ct_ c3;clear c3;obtain rfl:=oi_ H;go_enter Tryz.func77,Tryz.ntmps77;go_wp2;go_ret;exact ⟨me_,mb_ HB⟩
 ·rw [if_neg c3] at H;have c3b0:=cf_ c3;clear c3;have H':=a_ H;clear H;go_enter Tryz.func77,Tryz.ntmps77;go_wp2;go_loopg [1,5] k (fun kq v1 v5 w'=>∃(x1_1:Int) (x5_1:Int),v1=.int .i64 x1_1∧v5=.int .i64 x5_1∧Aside0 (laws_szExprS.l0 kq l0 x1_1 x5_1=some r)∧Aside0 (kq≤k)∧Aside0 (Below w.heap.size w w'))
  case atStart=>exact ⟨(wrap64 (a1-(l0.length:Int))),(0),mq_,mq_,H',⟨Nat.le_refl _⟩,⟨mb_ HB⟩⟩
  clear H';(try clear c3b0);obtain ⟨x1_1,x5_1,rfl,rfl,HA,HK1,HB⟩:=hrel;obtain _|k1:=gk
  ·exact absurd HA.out (by simp [laws_szExprS.l0])
  have H:=HA.out;clear HA;simp only [laws_szExprS.l0] at H;by_cases c4:x5_1<(l0.length:Int)
  ·rw [if_pos c4] at H;have c4b0:=ct_ c4;clear c4;by_cases c5:0≤x5_1
   case neg=>
    rw [if_neg c5] at H;cases H
   rw [if_pos c5] at H;have c5b0:=ct_ c5;clear c5;obtain ⟨t113,A6,H⟩:=ob_ H;by_cases c7:t113<0
   ·rw [if_pos c7] at H;have c7b0:=ct_ c7;clear c7;obtain rfl:=oi_ H;have p112:0≤(x5_1:Int):=md_
    have q112:x5_1<(l0.length:Int):=md_
    obtain ⟨ad112,e112,hx112_0,hx112_1,hx112_2,hx112_3,hx112_4,hx112_5,hx112_6,hx112_7⟩:=at_T185 HR0.out x5_1 p112 q112;cases e112;replace hx112_0:=mx_ HB hx112_0;replace hx112_1:=mx_ HB hx112_1;replace hx112_2:=mx_ HB hx112_2;replace hx112_3:=mx_ HB hx112_3;replace hx112_4:=mx_ HB hx112_4;replace hx112_5:=mx_ HB hx112_5;replace hx112_6:=mx_ HB hx112_6;replace hx112_7:=mx_ HB hx112_7;replace p112:=eq_true p112;replace q112:=eq_true q112;go_wp2_with (first|((with_reducible refine gate_callee (f:=126) rfl ?_);refine goesL_ (some 23) rfl rfl Tryz.func126 (by kernel_rfl) rfl #[.agg #[.int .i64 ((rd_T185 l0 x5_1).f0),.int .u8 ((rd_T185 l0 x5_1).f1),.string ((rd_T185 l0 x5_1).f2),.int .i64 ((rd_T185 l0 x5_1).f3.f0),.int .i64 ((rd_T185 l0 x5_1).f3.f1),.string ((rd_T185 l0 x5_1).f3.f2),.int .i64 ((rd_T185 l0 x5_1).f4),.int .i64 ((rd_T185 l0 x5_1).f5)],.int .i64 x1_1] rfl mw_ ?_;(with_reducible refine (laws_szExpr.calls ((rd_T185 l0 x5_1).f0) ((rd_T185 l0 x5_1).f1) ((rd_T185 l0 x5_1).f2) ((rd_T185 l0 x5_1).f3.f0) ((rd_T185 l0 x5_1).f3.f1) ((rd_T185 l0 x5_1).f3.f2) ((rd_T185 l0 x5_1).f4) ((rd_T185 l0 x5_1).f5) x1_1 t113 _ A6.out).mono ?_);rintro e wx ⟨rfl,hb⟩;refine ⟨_,rfl,?_⟩;replace HB:=ms_ HB hb;(try clear hb)));go_ret;exact ⟨me_,mb_ HB⟩
   ·rw [if_neg c7] at H;have c7b0:=cf_ c7;clear c7;have H':=a_ H;clear H;have p112:0≤(x5_1:Int):=md_
    have q112:x5_1<(l0.length:Int):=md_
    obtain ⟨ad112,e112,hx112_0,hx112_1,hx112_2,hx112_3,hx112_4,hx112_5,hx112_6,hx112_7⟩:=at_T185 HR0.out x5_1 p112 q112;cases e112;replace hx112_0:=mx_ HB hx112_0;replace hx112_1:=mx_ HB hx112_1;replace hx112_2:=mx_ HB hx112_2;replace hx112_3:=mx_ HB hx112_3;replace hx112_4:=mx_ HB hx112_4;replace hx112_5:=mx_ HB hx112_5;replace hx112_6:=mx_ HB hx112_6;replace hx112_7:=mx_ HB hx112_7;replace p112:=eq_true p112;replace q112:=eq_true q112;go_wp2_with (first|((with_reducible refine gate_callee (f:=126) rfl ?_);refine goesL_ (some 23) rfl rfl Tryz.func126 (by kernel_rfl) rfl #[.agg #[.int .i64 ((rd_T185 l0 x5_1).f0),.int .u8 ((rd_T185 l0 x5_1).f1),.string ((rd_T185 l0 x5_1).f2),.int .i64 ((rd_T185 l0 x5_1).f3.f0),.int .i64 ((rd_T185 l0 x5_1).f3.f1),.string ((rd_T185 l0 x5_1).f3.f2),.int .i64 ((rd_T185 l0 x5_1).f4),.int .i64 ((rd_T185 l0 x5_1).f5)],.int .i64 x1_1] rfl mw_ ?_;(with_reducible refine (laws_szExpr.calls ((rd_T185 l0 x5_1).f0) ((rd_T185 l0 x5_1).f1) ((rd_T185 l0 x5_1).f2) ((rd_T185 l0 x5_1).f3.f0) ((rd_T185 l0 x5_1).f3.f1) ((rd_T185 l0 x5_1).f3.f2) ((rd_T185 l0 x5_1).f4) ((rd_T185 l0 x5_1).f5) x1_1 t113 _ A6.out).mono ?_);rintro e wx ⟨rfl,hb⟩;refine ⟨_,rfl,?_⟩;replace HB:=ms_ HB hb;(try clear hb)));go_roundg k1
    case measure=>
     have:=HK1.out
     omega
    case rel=>exact ⟨(t113),(wrap64 (x5_1+1)),mq_,mq_,H',⟨by have:=HK1.out;omega⟩,⟨mb_ HB⟩⟩
  ·rw [if_neg c4] at H;have c4b0:=cf_ c4;clear c4;obtain rfl:=oi_ H;go_wp2;go_ret;exact ⟨me_,mb_ HB⟩
def laws_szIntS.f (l0:List Int) (a1:Int):Option (Int):=if (wrap64 (a1-(l0.length:Int)))<0 then (some (-1)) else (some (wrap64 (a1-(l0.length:Int))))
theorem uea4_4 {p:Prop} (h:p:=by
 clear c3;obtain rfl:=oi_ H;go_enter Tryz.func158,Tryz.ntmps158;go_wp2;go_ret;exact ⟨by first|rfl|(simp;done)|(simp [*];done),by repeat (first|exact Drawn0.refl _|apply Drawn0.step)⟩):p:=h
set_option maxHeartbeats 8000000 in
set_option maxRecDepth 100000 in
theorem laws_szIntS.calls (A0:Option Addr) (c0:Nat) (l0:List Int) (a1:Int) (r:Int) (w:World) (hr0:Kd.C (Kd.int .i64) w A0 l0.length l0) (hc0:l0.length≤c0) (h:laws_szIntS.f l0 a1=some r):
  Calls Tryz.prog 158 #[.slice A0 l0.length c0,.int .i64 a1] w fun e w'=>e=.returned (.int .i64 r)∧Drawn0 w w':=by
 have HR0:=a_ hr0;have HC0:=a_ hc0;clear hr0 hc0;have H:=h;unfold laws_szIntS.f at H
 clear h;by_cases c3:(wrap64 (a1-(l0.length:Int)))<0
 ·rw [if_pos c3] at H;have c3b0:=ct_ c3;exact uea4_4
 ·rw [if_neg c3] at H;have c3b0:=cf_ c3;exact uea4_4
def laws_szAction.f (a0_0:Int) (a0_1:Int) (a0_2:ByteArray) (l0_3:List Int) (a1:Int):Option (Int):=if (wrap64 (a1-(a0_2.size:Int)))<0 then (some (-1)) else ((laws_szIntS.f l0_3 (wrap64 (a1-(a0_2.size:Int)))).bind fun t115=>(if t115<0 then (some (-1)) else (some t115)))
theorem uea4_5 {p:Prop} (h:p:=by
 obtain rfl:=oi_ H;go_enter Tryz.func127,Tryz.ntmps127;go_wp2_with (first|((with_reducible refine gate_dst (N:=2) rfl ?_);refine bh_ 2 #[.int .i64 a0_0,.int .i64 a0_1,.string a0_2,.slice A0_3 l0_3.length c0_3] 187 HB ?_;intro gb114 hg wx BK114 GE114 hb;replace HB:=ms_ HB hb;clear hb hg;replace hz114:=cz4 BK114)|((with_reducible refine gate_callee (f:=158) rfl ?_);refine goesL_ (some 15) rfl rfl Tryz.func158 (by kernel_rfl) rfl #[.slice A0_3 l0_3.length c0_3,.int .i64 (wrap64 (a1-(a0_2.size:Int)))] rfl mw_ ?_;(with_reducible refine (laws_szIntS.calls _ _ l0_3 (wrap64 (a1-(a0_2.size:Int))) t115 _ ?side1 HC0_3.out A6.out).mono ?_);(case side1=>exact mt_ HR0_3 HB);rintro e w' ⟨rfl,⟨nd,rfl⟩⟩;refine ⟨_,rfl,?_⟩));go_ret;exact ⟨me_,mb_ HB⟩):p:=h
set_option maxHeartbeats 8000000 in
set_option maxRecDepth 100000 in
theorem laws_szAction.calls (a0_0:Int) (a0_1:Int) (a0_2:ByteArray) (A0_3:Option Addr) (c0_3:Nat) (l0_3:List Int) (a1:Int) (r:Int) (w:World) (hr0_3:Kd.C (Kd.int .i64) w A0_3 l0_3.length l0_3) (hc0_3:l0_3.length≤c0_3) (h:laws_szAction.f a0_0 a0_1 a0_2 l0_3 a1=some r):
  Calls Tryz.prog 127 #[.agg #[.int .i64 a0_0,.int .i64 a0_1,.string a0_2,.slice A0_3 l0_3.length c0_3],.int .i64 a1] w fun e w'=>e=.returned (.int .i64 r)∧Below w.heap.size w w':=by
 have hu187:=Tryz.underlying187;have HR0_3:=a_ hr0_3;have HC0_3:=a_ hc0_3;clear hr0_3 hc0_3;have HB:=a_ (Below.refl w.heap.size w);have H:=h;unfold laws_szAction.f at H
 clear h;by_cases c3:(wrap64 (a1-(a0_2.size:Int)))<0
 ·rw [if_pos c3] at H;have c3b0:=ct_ c3;clear c3;exact uea4_5
 ·rw [if_neg c3] at H;have c3b0:=cf_ c3;clear c3;obtain ⟨t115,A6,H⟩:=ob_ H;by_cases c7:t115<0
  ·rw [if_pos c7] at H;have c7b0:=ct_ c7;clear c7;exact uea4_5
  ·rw [if_neg c7] at H;have c7b0:=cf_ c7;clear c7;exact uea4_5
end Go.Proofs.YtahambloheoebaaGreatDoor.P
namespace Go.Proofs.YtahambloheoebaaGreatDoor.P
open Go.Proofs.YtahambloheoebaaGreatDoorX
open Go.RowKit Go.Proofs.YtahambloheoebaaGreatDoorW.PrintWords Go.Proofs.YtahambloheoebaaGreatDoorW.PrintLast Go.Proofs.YtahambloheoebaaGreatDoorW.PrintMore
attribute [local go_sem] max2_int min2_int max_two min_two max_three min_three max_four min_four
set_option linter.unusedVariables false
set_option linter.unusedSimpArgs false
def laws_szActionS.l0:Nat→List (S187)→Int→Int→Option (Int)
 | 0,_,_,_=>none
 | k+1,x0,x1,x5=>if x5<(x0.length:Int) then (if 0≤x5 then ((laws_szAction.f ((rd_T187 x0 x5).f0) ((rd_T187 x0 x5).f1) ((rd_T187 x0 x5).f2) ((rd_T187 x0 x5).f3) x1).bind fun t117=>(if t117<0 then (some (-1)) else (laws_szActionS.l0 k x0 t117 (wrap64 (x5+1))))) else (none)) else (some x1)
def laws_szActionS.f (k:Nat) (l0:List (S187)) (a1:Int):Option (Int):=if (wrap64 (a1-(l0.length:Int)))<0 then (some (-1)) else (laws_szActionS.l0 k l0 (wrap64 (a1-(l0.length:Int))) 0)
theorem laws_szActionS.mono_l:∀k,(∀y0 y1 y2,LeO (laws_szActionS.l0 k y0 y1 y2) (laws_szActionS.l0 (k+1) y0 y1 y2))
 | 0=>fun _ _ _ r h=>by simp [laws_szActionS.l0] at h
 | k+1=>by
  have ih0:=laws_szActionS.mono_l k
  ·intro y0 y1 y2;unfold laws_szActionS.l0
   repeat' with_reducible first|apply ih0|apply LeO.refl|apply LeO.none|refine LeO.ite ?_ ?_|refine LeO.bind ?_ (fun _=>?_)
theorem laws_szActionS.mono:∀a0 a1 k,LeO (laws_szActionS.f k a0 a1) (laws_szActionS.f (k+1) a0 a1):=by
 intro a0 a1 k;have ih0:=laws_szActionS.mono_l k;unfold laws_szActionS.f
 repeat' with_reducible first|apply ih0|apply LeO.refl|apply LeO.none|refine LeO.ite ?_ ?_|refine LeO.bind ?_ (fun _=>?_)
set_option maxHeartbeats 8000000 in
set_option maxRecDepth 100000 in
theorem laws_szActionS.calls (k:Nat) (A0:Option Addr) (c0:Nat) (l0:List (S187)) (a1:Int) (r:Int) (w:World) (hr0:Kd.C k187 w A0 l0.length l0) (hc0:l0.length≤c0) (h:laws_szActionS.f k l0 a1=some r):
  Calls Tryz.prog 78 #[.slice A0 l0.length c0,.int .i64 a1] w fun e w'=>e=.returned (.int .i64 r)∧Below w.heap.size w w':=by
 have hu187:=Tryz.underlying187;have HR0:=a_ hr0;have HC0:=a_ hc0;clear hr0 hc0;have HB:=a_ (Below.refl w.heap.size w);have H:=h;unfold laws_szActionS.f at H
 clear h;by_cases c3:(wrap64 (a1-(l0.length:Int)))<0
 ·rw [if_pos c3] at H;have c3b0:=ct_ c3;clear c3;obtain rfl:=oi_ H;go_enter Tryz.func78,Tryz.ntmps78;go_wp2;go_ret;exact ⟨me_,mb_ HB⟩
 ·rw [if_neg c3] at H;have c3b0:=cf_ c3;clear c3;have H':=a_ H;clear H;go_enter Tryz.func78,Tryz.ntmps78;go_wp2;go_loopg [1,5] k (fun kq v1 v5 w'=>∃(x1_1:Int) (x5_1:Int),v1=.int .i64 x1_1∧v5=.int .i64 x5_1∧Aside0 (laws_szActionS.l0 kq l0 x1_1 x5_1=some r)∧Aside0 (kq≤k)∧Aside0 (Below w.heap.size w w'))
  case atStart=>exact ⟨(wrap64 (a1-(l0.length:Int))),(0),mq_,mq_,H',⟨Nat.le_refl _⟩,⟨mb_ HB⟩⟩
  clear H';(try clear c3b0);obtain ⟨x1_1,x5_1,rfl,rfl,HA,HK1,HB⟩:=hrel;obtain _|k1:=gk
  ·exact absurd HA.out (by simp [laws_szActionS.l0])
  have H:=HA.out;clear HA;simp only [laws_szActionS.l0] at H;by_cases c4:x5_1<(l0.length:Int)
  ·rw [if_pos c4] at H;have c4b0:=ct_ c4;clear c4;by_cases c5:0≤x5_1
   case neg=>
    rw [if_neg c5] at H;cases H
   rw [if_pos c5] at H;have c5b0:=ct_ c5;clear c5;obtain ⟨t117,A6,H⟩:=ob_ H;by_cases c7:t117<0
   ·rw [if_pos c7] at H;have c7b0:=ct_ c7;clear c7;obtain rfl:=oi_ H;have p116:0≤(x5_1:Int):=md_
    have q116:x5_1<(l0.length:Int):=md_
    obtain ⟨ad116,A116_3,c116_3,e116,hx116_0,hx116_1,hx116_2,hx116_3,hl116_3,hi116_3⟩:=at_T187 HR0.out x5_1 p116 q116;cases e116;replace hx116_0:=mx_ HB hx116_0;replace hx116_1:=mx_ HB hx116_1;replace hx116_2:=mx_ HB hx116_2;replace hx116_3:=mx_ HB hx116_3;have HR116_3:=a_ hi116_3;have HC116_3:=a_ hl116_3;clear hi116_3 hl116_3;replace p116:=eq_true p116;replace q116:=eq_true q116;go_wp2_with (first|((with_reducible refine gate_callee (f:=127) rfl ?_);refine goesL_ (some 23) rfl rfl Tryz.func127 (by kernel_rfl) rfl #[.agg #[.int .i64 ((rd_T187 l0 x5_1).f0),.int .i64 ((rd_T187 l0 x5_1).f1),.string ((rd_T187 l0 x5_1).f2),.slice A116_3 ((rd_T187 l0 x5_1).f3).length c116_3],.int .i64 x1_1] rfl mw_ ?_;(with_reducible refine (laws_szAction.calls ((rd_T187 l0 x5_1).f0) ((rd_T187 l0 x5_1).f1) ((rd_T187 l0 x5_1).f2) _ _ ((rd_T187 l0 x5_1).f3) x1_1 t117 _ ?side1 HC116_3.out A6.out).mono ?_);(case side1=>exact mt_ HR116_3 HB);rintro e wx ⟨rfl,hb⟩;refine ⟨_,rfl,?_⟩;replace HB:=ms_ HB hb;(try clear hb)));go_ret;exact ⟨me_,mb_ HB⟩
   ·rw [if_neg c7] at H;have c7b0:=cf_ c7;clear c7;have H':=a_ H;clear H;have p116:0≤(x5_1:Int):=md_
    have q116:x5_1<(l0.length:Int):=md_
    obtain ⟨ad116,A116_3,c116_3,e116,hx116_0,hx116_1,hx116_2,hx116_3,hl116_3,hi116_3⟩:=at_T187 HR0.out x5_1 p116 q116;cases e116;replace hx116_0:=mx_ HB hx116_0;replace hx116_1:=mx_ HB hx116_1;replace hx116_2:=mx_ HB hx116_2;replace hx116_3:=mx_ HB hx116_3;have HR116_3:=a_ hi116_3;have HC116_3:=a_ hl116_3;clear hi116_3 hl116_3;replace p116:=eq_true p116;replace q116:=eq_true q116;go_wp2_with (first|((with_reducible refine gate_callee (f:=127) rfl ?_);refine goesL_ (some 23) rfl rfl Tryz.func127 (by kernel_rfl) rfl #[.agg #[.int .i64 ((rd_T187 l0 x5_1).f0),.int .i64 ((rd_T187 l0 x5_1).f1),.string ((rd_T187 l0 x5_1).f2),.slice A116_3 ((rd_T187 l0 x5_1).f3).length c116_3],.int .i64 x1_1] rfl mw_ ?_;(with_reducible refine (laws_szAction.calls ((rd_T187 l0 x5_1).f0) ((rd_T187 l0 x5_1).f1) ((rd_T187 l0 x5_1).f2) _ _ ((rd_T187 l0 x5_1).f3) x1_1 t117 _ ?side1 HC116_3.out A6.out).mono ?_);(case side1=>exact mt_ HR116_3 HB);rintro e wx ⟨rfl,hb⟩;refine ⟨_,rfl,?_⟩;replace HB:=ms_ HB hb;(try clear hb)));go_roundg k1
    case measure=>
     have:=HK1.out
     omega
    case rel=>exact ⟨(t117),(wrap64 (x5_1+1)),mq_,mq_,H',⟨by have:=HK1.out;omega⟩,⟨mb_ HB⟩⟩
  ·rw [if_neg c4] at H;have c4b0:=cf_ c4;clear c4;obtain rfl:=oi_ H;go_wp2;go_ret;exact ⟨me_,mb_ HB⟩
def laws_szRule.f (k:Nat) (a0_0:ByteArray) (a0_1:Int) (l0_2:List (S181)) (l0_3:List (S185)) (l0_4:List (S187)) (a1:Int):Option (Int):=if (wrap64 (a1-(a0_0.size:Int)))<0 then (some (-1)) else ((laws_szPatternS.f k l0_2 (wrap64 (a1-(a0_0.size:Int)))).bind fun t119=>(if t119<0 then (some (-1)) else ((laws_szExprS.f k l0_3 t119).bind fun t120=>(if t120<0 then (some (-1)) else ((laws_szActionS.f k l0_4 t120).bind fun t121=>(if t121<0 then (some (-1)) else (some t121)))))))
theorem laws_szRule.mono:∀a0 a1 a2 a3 a4 a5 k,LeO (laws_szRule.f k a0 a1 a2 a3 a4 a5) (laws_szRule.f (k+1) a0 a1 a2 a3 a4 a5):=by
 intro a0 a1 a2 a3 a4 a5 k;unfold laws_szRule.f
 repeat' with_reducible first|apply laws_szActionS.mono|apply laws_szExprS.mono|apply laws_szPatternS.mono|apply LeO.refl|apply LeO.none|refine LeO.ite ?_ ?_|refine LeO.bind ?_ (fun _=>?_)
theorem u5b7_0 {p:Prop} (h:p:=by
 obtain rfl:=oi_ H;go_enter Tryz.func36,Tryz.ntmps36;go_wp2_with (first|((with_reducible refine gate_dst (N:=2) rfl ?_);refine bh_ 2 #[.string a0_0,.int .i64 a0_1,.slice A0_2 l0_2.length c0_2,.slice A0_3 l0_3.length c0_3,.slice A0_4 l0_4.length c0_4] 94 HB ?_;intro gb118 hg wx BK118 GE118 hb;replace HB:=ms_ HB hb;clear hb hg;replace hz118:=cz5 BK118)|((with_reducible refine gate_callee (f:=76) rfl ?_);refine goesL_ (some 15) rfl rfl Tryz.func76 (by kernel_rfl) rfl #[.slice A0_2 l0_2.length c0_2,.int .i64 (wrap64 (a1-(a0_0.size:Int)))] rfl mw_ ?_;(with_reducible refine (laws_szPatternS.calls k _ _ l0_2 (wrap64 (a1-(a0_0.size:Int))) t119 _ ?side1 HC0_2.out A6.out).mono ?_);(case side1=>exact mt_ HR0_2 HB);rintro e wx ⟨rfl,hb⟩;refine ⟨_,rfl,?_⟩;replace BK118:=mk_ BK118 hb;replace HB:=ms_ HB hb;(try clear hb);replace hz118:=cz5 BK118)|((with_reducible refine gate_callee (f:=77) rfl ?_);refine goesL_ (some 21) rfl rfl Tryz.func77 (by kernel_rfl) rfl #[.slice A0_3 l0_3.length c0_3,.int .i64 t119] rfl mw_ ?_;(with_reducible refine (laws_szExprS.calls k _ _ l0_3 t119 t120 _ ?side1 HC0_3.out A11.out).mono ?_);(case side1=>exact mt_ HR0_3 HB);rintro e wx ⟨rfl,hb⟩;refine ⟨_,rfl,?_⟩;replace BK118:=mk_ BK118 hb;replace HB:=ms_ HB hb;(try clear hb);replace hz118:=cz5 BK118)|((with_reducible refine gate_callee (f:=78) rfl ?_);refine goesL_ (some 27) rfl rfl Tryz.func78 (by kernel_rfl) rfl #[.slice A0_4 l0_4.length c0_4,.int .i64 t120] rfl mw_ ?_;(with_reducible refine (laws_szActionS.calls k _ _ l0_4 t120 t121 _ ?side1 HC0_4.out A18.out).mono ?_);(case side1=>exact mt_ HR0_4 HB);rintro e wx ⟨rfl,hb⟩;refine ⟨_,rfl,?_⟩;replace BK118:=mk_ BK118 hb;replace HB:=ms_ HB hb;(try clear hb)));go_ret;exact ⟨me_,mb_ HB⟩):p:=h
set_option maxHeartbeats 8000000 in
set_option maxRecDepth 100000 in
theorem laws_szRule.calls (k:Nat) (a0_0:ByteArray) (a0_1:Int) (A0_2:Option Addr) (c0_2:Nat) (l0_2:List (S181)) (A0_3:Option Addr) (c0_3:Nat) (l0_3:List (S185)) (A0_4:Option Addr) (c0_4:Nat) (l0_4:List (S187)) (a1:Int) (r:Int) (w:World) (hr0_2:Kd.C k181 w A0_2 l0_2.length l0_2) (hc0_2:l0_2.length≤c0_2) (hr0_3:Kd.C k185 w A0_3 l0_3.length l0_3) (hc0_3:l0_3.length≤c0_3) (hr0_4:Kd.C k187 w A0_4 l0_4.length l0_4) (hc0_4:l0_4.length≤c0_4) (h:laws_szRule.f k a0_0 a0_1 l0_2 l0_3 l0_4 a1=some r):
  Calls Tryz.prog 36 #[.agg #[.string a0_0,.int .i64 a0_1,.slice A0_2 l0_2.length c0_2,.slice A0_3 l0_3.length c0_3,.slice A0_4 l0_4.length c0_4],.int .i64 a1] w fun e w'=>e=.returned (.int .i64 r)∧Below w.heap.size w w':=by
 have hu94:=Tryz.underlying94;have HR0_2:=a_ hr0_2;have HC0_2:=a_ hc0_2;clear hr0_2 hc0_2;have HR0_3:=a_ hr0_3;have HC0_3:=a_ hc0_3;clear hr0_3 hc0_3;have HR0_4:=a_ hr0_4;have HC0_4:=a_ hc0_4;clear hr0_4 hc0_4;have HB:=a_ (Below.refl w.heap.size w);have H:=h;unfold laws_szRule.f at H
 clear h;by_cases c3:(wrap64 (a1-(a0_0.size:Int)))<0
 ·rw [if_pos c3] at H;have c3b0:=ct_ c3;clear c3;exact u5b7_0
 ·rw [if_neg c3] at H;have c3b0:=cf_ c3;clear c3;obtain ⟨t119,A6,H⟩:=ob_ H;by_cases c7:t119<0
  ·rw [if_pos c7] at H;have c7b0:=ct_ c7;clear c7;exact u5b7_0
  ·rw [if_neg c7] at H;have c7b0:=cf_ c7;clear c7;obtain ⟨t120,A11,H⟩:=ob_ H;by_cases c12:t120<0
   ·rw [if_pos c12] at H;have c12b0:=ct_ c12;clear c12;exact u5b7_0
   ·rw [if_neg c12] at H;have c12b0:=cf_ c12;clear c12;obtain ⟨t121,A18,H⟩:=ob_ H;by_cases c19:t121<0
    ·rw [if_pos c19] at H;have c19b0:=ct_ c19;clear c19;exact u5b7_0
    ·rw [if_neg c19] at H;have c19b0:=cf_ c19;clear c19;exact u5b7_0
def laws_szRuleS.l0:Nat→List (S94)→Int→Int→Option (Int)
 | 0,_,_,_=>none
 | k+1,x0,x1,x5=>if x5<(x0.length:Int) then (if 0≤x5 then ((laws_szRule.f k ((rd_T94 x0 x5).f0) ((rd_T94 x0 x5).f1) ((rd_T94 x0 x5).f2) ((rd_T94 x0 x5).f3) ((rd_T94 x0 x5).f4) x1).bind fun t123=>(if t123<0 then (some (-1)) else (laws_szRuleS.l0 k x0 t123 (wrap64 (x5+1))))) else (none)) else (some x1)
def laws_szRuleS.f (k:Nat) (l0:List (S94)) (a1:Int):Option (Int):=if (wrap64 (a1-(l0.length:Int)))<0 then (some (-1)) else (laws_szRuleS.l0 k l0 (wrap64 (a1-(l0.length:Int))) 0)
theorem laws_szRuleS.mono_l:∀k,(∀y0 y1 y2,LeO (laws_szRuleS.l0 k y0 y1 y2) (laws_szRuleS.l0 (k+1) y0 y1 y2))
 | 0=>fun _ _ _ r h=>by simp [laws_szRuleS.l0] at h
 | k+1=>by
  have ih0:=laws_szRuleS.mono_l k
  ·intro y0 y1 y2;unfold laws_szRuleS.l0
   repeat' with_reducible first|apply ih0|apply laws_szRule.mono|apply LeO.refl|apply LeO.none|refine LeO.ite ?_ ?_|refine LeO.bind ?_ (fun _=>?_)
theorem laws_szRuleS.mono:∀a0 a1 k,LeO (laws_szRuleS.f k a0 a1) (laws_szRuleS.f (k+1) a0 a1):=by
 intro a0 a1 k;have ih0:=laws_szRuleS.mono_l k;unfold laws_szRuleS.f
 repeat' with_reducible first|apply ih0|apply laws_szRule.mono|apply LeO.refl|apply LeO.none|refine LeO.ite ?_ ?_|refine LeO.bind ?_ (fun _=>?_)
set_option maxHeartbeats 8000000 in
set_option maxRecDepth 100000 in
theorem laws_szRuleS.calls (k:Nat) (A0:Option Addr) (c0:Nat) (l0:List (S94)) (a1:Int) (r:Int) (w:World) (hr0:Kd.C k94 w A0 l0.length l0) (hc0:l0.length≤c0) (h:laws_szRuleS.f k l0 a1=some r):
  Calls Tryz.prog 12 #[.slice A0 l0.length c0,.int .i64 a1] w fun e w'=>e=.returned (.int .i64 r)∧Below w.heap.size w w':=by
 have hu94:=Tryz.underlying94;have HR0:=a_ hr0;have HC0:=a_ hc0;clear hr0 hc0;have HB:=a_ (Below.refl w.heap.size w);have H:=h;unfold laws_szRuleS.f at H
 clear h;by_cases c3:(wrap64 (a1-(l0.length:Int)))<0
 ·rw [if_pos c3] at H;have c3b0:=ct_ c3;clear c3;obtain rfl:=oi_ H;go_enter Tryz.func12,Tryz.ntmps12;go_wp2;go_ret;exact ⟨me_,mb_ HB⟩
 ·rw [if_neg c3] at H;have c3b0:=cf_ c3;clear c3;have H':=a_ H;clear H;go_enter Tryz.func12,Tryz.ntmps12;go_wp2;go_loopg [1,5] k (fun kq v1 v5 w'=>∃(x1_1:Int) (x5_1:Int),v1=.int .i64 x1_1∧v5=.int .i64 x5_1∧Aside0 (laws_szRuleS.l0 kq l0 x1_1 x5_1=some r)∧Aside0 (kq≤k)∧Aside0 (Below w.heap.size w w'))
  case atStart=>exact ⟨(wrap64 (a1-(l0.length:Int))),(0),mq_,mq_,H',⟨Nat.le_refl _⟩,⟨mb_ HB⟩⟩
  clear H';(try clear c3b0);obtain ⟨x1_1,x5_1,rfl,rfl,HA,HK1,HB⟩:=hrel;obtain _|k1:=gk
  ·exact absurd HA.out (by simp [laws_szRuleS.l0])
  have H:=HA.out;clear HA;simp only [laws_szRuleS.l0] at H;by_cases c4:x5_1<(l0.length:Int)
  ·rw [if_pos c4] at H;have c4b0:=ct_ c4;clear c4;by_cases c5:0≤x5_1
   case neg=>
    rw [if_neg c5] at H;cases H
   rw [if_pos c5] at H;have c5b0:=ct_ c5;clear c5;obtain ⟨t123,A6,H⟩:=ob_ H;by_cases c7:t123<0
   ·rw [if_pos c7] at H;have c7b0:=ct_ c7;clear c7;obtain rfl:=oi_ H;have p122:0≤(x5_1:Int):=md_
    have q122:x5_1<(l0.length:Int):=md_
    obtain ⟨ad122,A122_2,c122_2,A122_3,c122_3,A122_4,c122_4,e122,hx122_0,hx122_1,hx122_2,hx122_3,hx122_4,hl122_2,hi122_2,hl122_3,hi122_3,hl122_4,hi122_4⟩:=at_T94 HR0.out x5_1 p122 q122;cases e122;replace hx122_0:=mx_ HB hx122_0;replace hx122_1:=mx_ HB hx122_1;replace hx122_2:=mx_ HB hx122_2;replace hx122_3:=mx_ HB hx122_3;replace hx122_4:=mx_ HB hx122_4;have HR122_2:=a_ hi122_2;have HC122_2:=a_ hl122_2;clear hi122_2 hl122_2;have HR122_3:=a_ hi122_3;have HC122_3:=a_ hl122_3;clear hi122_3 hl122_3;have HR122_4:=a_ hi122_4;have HC122_4:=a_ hl122_4;clear hi122_4 hl122_4;replace p122:=eq_true p122;replace q122:=eq_true q122;go_wp2_with (first|((with_reducible refine gate_callee (f:=36) rfl ?_);refine goesL_ (some 23) rfl rfl Tryz.func36 (by kernel_rfl) rfl #[.agg #[.string ((rd_T94 l0 x5_1).f0),.int .i64 ((rd_T94 l0 x5_1).f1),.slice A122_2 ((rd_T94 l0 x5_1).f2).length c122_2,.slice A122_3 ((rd_T94 l0 x5_1).f3).length c122_3,.slice A122_4 ((rd_T94 l0 x5_1).f4).length c122_4],.int .i64 x1_1] rfl mw_ ?_;(with_reducible refine (laws_szRule.calls k1 ((rd_T94 l0 x5_1).f0) ((rd_T94 l0 x5_1).f1) _ _ ((rd_T94 l0 x5_1).f2) _ _ ((rd_T94 l0 x5_1).f3) _ _ ((rd_T94 l0 x5_1).f4) x1_1 t123 _ ?side1 HC122_2.out ?side3 HC122_3.out ?side5 HC122_4.out A6.out).mono ?_);(case side1=>exact mt_ HR122_2 HB);(case side3=>exact mt_ HR122_3 HB);(case side5=>exact mt_ HR122_4 HB);rintro e wx ⟨rfl,hb⟩;refine ⟨_,rfl,?_⟩;replace HB:=ms_ HB hb;(try clear hb)));go_ret;exact ⟨me_,mb_ HB⟩
   ·rw [if_neg c7] at H;have c7b0:=cf_ c7;clear c7;have H':=a_ H;clear H;have p122:0≤(x5_1:Int):=md_
    have q122:x5_1<(l0.length:Int):=md_
    obtain ⟨ad122,A122_2,c122_2,A122_3,c122_3,A122_4,c122_4,e122,hx122_0,hx122_1,hx122_2,hx122_3,hx122_4,hl122_2,hi122_2,hl122_3,hi122_3,hl122_4,hi122_4⟩:=at_T94 HR0.out x5_1 p122 q122;cases e122;replace hx122_0:=mx_ HB hx122_0;replace hx122_1:=mx_ HB hx122_1;replace hx122_2:=mx_ HB hx122_2;replace hx122_3:=mx_ HB hx122_3;replace hx122_4:=mx_ HB hx122_4;have HR122_2:=a_ hi122_2;have HC122_2:=a_ hl122_2;clear hi122_2 hl122_2;have HR122_3:=a_ hi122_3;have HC122_3:=a_ hl122_3;clear hi122_3 hl122_3;have HR122_4:=a_ hi122_4;have HC122_4:=a_ hl122_4;clear hi122_4 hl122_4;replace p122:=eq_true p122;replace q122:=eq_true q122;go_wp2_with (first|((with_reducible refine gate_callee (f:=36) rfl ?_);refine goesL_ (some 23) rfl rfl Tryz.func36 (by kernel_rfl) rfl #[.agg #[.string ((rd_T94 l0 x5_1).f0),.int .i64 ((rd_T94 l0 x5_1).f1),.slice A122_2 ((rd_T94 l0 x5_1).f2).length c122_2,.slice A122_3 ((rd_T94 l0 x5_1).f3).length c122_3,.slice A122_4 ((rd_T94 l0 x5_1).f4).length c122_4],.int .i64 x1_1] rfl mw_ ?_;(with_reducible refine (laws_szRule.calls k1 ((rd_T94 l0 x5_1).f0) ((rd_T94 l0 x5_1).f1) _ _ ((rd_T94 l0 x5_1).f2) _ _ ((rd_T94 l0 x5_1).f3) _ _ ((rd_T94 l0 x5_1).f4) x1_1 t123 _ ?side1 HC122_2.out ?side3 HC122_3.out ?side5 HC122_4.out A6.out).mono ?_);(case side1=>exact mt_ HR122_2 HB);(case side3=>exact mt_ HR122_3 HB);(case side5=>exact mt_ HR122_4 HB);rintro e wx ⟨rfl,hb⟩;refine ⟨_,rfl,?_⟩;replace HB:=ms_ HB hb;(try clear hb)));go_roundg k1
    case measure=>
     have:=HK1.out
     omega
    case rel=>exact ⟨(t123),(wrap64 (x5_1+1)),mq_,mq_,H',⟨by have:=HK1.out;omega⟩,⟨mb_ HB⟩⟩
  ·rw [if_neg c4] at H;have c4b0:=cf_ c4;clear c4;obtain rfl:=oi_ H;go_wp2;go_ret;exact ⟨me_,mb_ HB⟩
end Go.Proofs.YtahambloheoebaaGreatDoor.P
namespace Go.Proofs.YtahambloheoebaaGreatDoor.P
open Go.Proofs.YtahambloheoebaaGreatDoorX
open Go.RowKit Go.Proofs.YtahambloheoebaaGreatDoorW.PrintWords Go.Proofs.YtahambloheoebaaGreatDoorW.PrintLast Go.Proofs.YtahambloheoebaaGreatDoorW.PrintMore
attribute [local go_sem] max2_int min2_int max_two min_two max_three min_three max_four min_four
set_option linter.unusedVariables false
set_option linter.unusedSimpArgs false
def laws_eqPatternS.l0:Nat→List (S42)→List (S42)→Int→Option (Bool)
 | 0,_,_,_=>none
 | k+1,x0,x1,x5=>if x5<(x0.length:Int) then (if 0≤x5 then (if x5<(x1.length:Int) then ((laws_eqPattern.f k ((rd_T42 x0 x5).f0) ((rd_T42 x0 x5).f1) ((rd_T42 x0 x5).f2) ((rd_T42 x1 x5).f0) ((rd_T42 x1 x5).f1) ((rd_T42 x1 x5).f2)).bind fun t403=>(if t403=true then (laws_eqPatternS.l0 k x0 x1 (wrap64 (x5+1))) else (some false))) else (none)) else (none)) else (some true)
def laws_eqPatternS.f (k:Nat) (l0:List (S42)) (l1:List (S42)):Option (Bool):=if (l0.length:Int)=(l1.length:Int) then (laws_eqPatternS.l0 k l0 l1 0) else (some false)
theorem laws_eqPatternS.mono_l:∀k,(∀y0 y1 y2,LeO (laws_eqPatternS.l0 k y0 y1 y2) (laws_eqPatternS.l0 (k+1) y0 y1 y2))
 | 0=>fun _ _ _ r h=>by simp [laws_eqPatternS.l0] at h
 | k+1=>by
  have ih0:=laws_eqPatternS.mono_l k
  ·intro y0 y1 y2;unfold laws_eqPatternS.l0
   repeat' with_reducible first|apply ih0|apply laws_eqPattern.mono|apply LeO.refl|apply LeO.none|refine LeO.ite ?_ ?_|refine LeO.bind ?_ (fun _=>?_)
theorem laws_eqPatternS.mono:∀a0 a1 k,LeO (laws_eqPatternS.f k a0 a1) (laws_eqPatternS.f (k+1) a0 a1):=by
 intro a0 a1 k;have ih0:=laws_eqPatternS.mono_l k;unfold laws_eqPatternS.f
 repeat' with_reducible first|apply ih0|apply laws_eqPattern.mono|apply LeO.refl|apply LeO.none|refine LeO.ite ?_ ?_|refine LeO.bind ?_ (fun _=>?_)
def laws_eqPatternS.T6:Bool×List (List Nat×List Nat):=(true,[([],[]),([],[]),([0,1],[0,1]),([2],[2]),([],[]),([],[]),([4,5],[4,5]),([6],[6]),([3,7],[3,7]),([8],[8])])
def laws_eqPatternS.B6:List Nat:=[0,0,3,7,0,0,48,112,255,511]
theorem laws_eqPatternS.tab6:rtab .any (opsOf Tryz.f91 6)=laws_eqPatternS.T6:=by kernel_rfl
theorem laws_eqPatternS.bits6:waitsOk laws_eqPatternS.T6.2 laws_eqPatternS.B6=true:=by kernel_rfl
abbrev bffc_0:Array Bool:=#[f_,f_,f_,f_,f_,f_,f_,f_,f_,f_]
abbrev bffc_1:Array Bool:=#[t_,f_,f_,f_,f_,f_,f_,f_,f_,f_]
abbrev bffc_2:Array Bool:=#[t_,t_,f_,f_,f_,f_,f_,f_,f_,f_]
abbrev bffc_3:Array Bool:=#[t_,t_,t_,f_,f_,f_,f_,f_,f_,f_]
abbrev bffc_4:Array Bool:=#[t_,t_,t_,f_,t_,f_,f_,f_,f_,f_]
abbrev bffc_5:Array Bool:=#[t_,t_,t_,f_,t_,t_,f_,f_,f_,f_]
abbrev bffc_6:Array Bool:=#[t_,t_,t_,f_,t_,t_,t_,f_,f_,f_]
abbrev bffc_7:Array Bool:=#[t_,t_,t_,t_,t_,t_,t_,f_,f_,f_]
abbrev bffc_8:Array Bool:=#[t_,t_,t_,t_,t_,t_,t_,t_,f_,f_]
abbrev bffc_9:Array Bool:=#[t_,t_,t_,t_,t_,t_,t_,t_,t_,f_]
abbrev bffc_10:Array Bool:=#[t_,t_,t_,t_,t_,t_,t_,t_,t_,t_]
set_option maxHeartbeats 8000000 in
set_option maxRecDepth 100000 in
theorem laws_eqPatternS.calls (k:Nat) (A0:Option Addr) (c0:Nat) (l0:List (S42)) (A1:Option Addr) (c1:Nat) (l1:List (S42)) (r:Bool) (w:World) (hr0:Kd.C k42 w A0 l0.length l0) (hc0:l0.length≤c0) (hr1:Kd.C k42 w A1 l1.length l1) (hc1:l1.length≤c1) (h:laws_eqPatternS.f k l0 l1=some r) (hT_:r=true:=by first|rfl|assumption):
  Calls Tryz.prog 91 #[.slice A0 l0.length c0,.slice A1 l1.length c1] w fun e w'=>e=.returned (.bool r)∧Below w.heap.size w w':=by
 subst hT_;have hu42:=Tryz.underlying42;have HR0:=a_ hr0;have HC0:=a_ hc0;clear hr0 hc0;have HR1:=a_ hr1;have HC1:=a_ hc1;clear hr1 hc1;have HB:=a_ (Below.refl w.heap.size w);have H:=h;unfold laws_eqPatternS.f at H
 clear h;by_cases c3:(l0.length:Int)=(l1.length:Int)
 ·rw [if_pos c3] at H;obtain ⟨c3b0,c3b1⟩:=bq_ c3;have c3b2:(l0.length==l1.length)=true:=by first|simpa using c3|(simp at c3 ⊢;omega)
  clear c3;have H':=a_ H;clear H;go_enter Tryz.func91,Tryz.ntmps91;go_wp2;go_loopg [5] k (fun kq v5 w'=>∃(x5_1:Int),v5=.int .i64 x5_1∧Aside0 (laws_eqPatternS.l0 kq l0 l1 x5_1=some true)∧Aside0 (kq≤k)∧Aside0 (Below w.heap.size w w'))
  case atStart=>exact ⟨(0),mq_,H',⟨Nat.le_refl _⟩,⟨mb_ HB⟩⟩
  clear H';(try clear c3b0);(try clear c3b1);(try clear c3b2);obtain ⟨x5_1,rfl,HA,HK1,HB⟩:=hrel;obtain _|k1:=gk
  ·exact absurd HA.out (by simp [laws_eqPatternS.l0])
  have H:=HA.out;clear HA;simp only [laws_eqPatternS.l0] at H;by_cases c4:x5_1<(l0.length:Int)
  ·rw [if_pos c4] at H;have c4b0:=ct_ c4;clear c4;by_cases c5:0≤x5_1
   case neg=>
    rw [if_neg c5] at H;cases H
   rw [if_pos c5] at H;have c5b0:=ct_ c5;clear c5;by_cases c6:x5_1<(l1.length:Int)
   case neg=>
    rw [if_neg c6] at H;cases H
   rw [if_pos c6] at H;have c6b0:=ct_ c6;clear c6;obtain ⟨t403,A7,H⟩:=ob_ H;by_cases c8:t403=true
   ·subst c8;rw [if_pos rfl] at H;have H':=a_ H;clear H;try go_wp2
    replace HB:=a_ (below_drew1 HB.out);have p401:0≤(x5_1:Int):=md_
    have q401:x5_1<(l0.length:Int):=md_
    obtain ⟨ad401,A401_2,c401_2,e401,hx401_0,hx401_1,hx401_2,hl401_2,hi401_2⟩:=at_T42 HR0.out x5_1 p401 q401;have hw401_2:=hx401_2;have hw401_1:=hx401_1;have hw401_0:=hx401_0;cases e401;replace hx401_0:=mx_ HB hx401_0;replace hx401_1:=mx_ HB hx401_1;replace hx401_2:=mx_ HB hx401_2;have HR401_2:=a_ hi401_2;have HC401_2:=a_ hl401_2;clear hi401_2 hl401_2;replace p401:=eq_true p401;replace q401:=eq_true q401;have p402:0≤(x5_1:Int):=md_
    have q402:x5_1<(l1.length:Int):=md_
    obtain ⟨ad402,A402_2,c402_2,e402,hx402_0,hx402_1,hx402_2,hl402_2,hi402_2⟩:=at_T42 HR1.out x5_1 p402 q402;have hw402_2:=hx402_2;have hw402_1:=hx402_1;have hw402_0:=hx402_0;cases e402;replace hx402_0:=mx_ HB hx402_0;replace hx402_1:=mx_ HB hx402_1;replace hx402_2:=mx_ HB hx402_2;have HR402_2:=a_ hi402_2;have HC402_2:=a_ hl402_2;clear hi402_2 hl402_2;replace p402:=eq_true p402;replace q402:=eq_true q402;refine start_ (n:=10) (S:=fun w'=>w'.cell? (ad401.add ((x5_1).toNat*3))=some (.bool ((rd_T42 l0 x5_1).f0))∧w'.cell? ⟨(ad401.add ((x5_1).toNat*3)).block,(ad401.add ((x5_1).toNat*3)).off+1,none⟩=some (.string ((rd_T42 l0 x5_1).f1))∧w'.cell? ⟨(ad401.add ((x5_1).toNat*3)).block,(ad401.add ((x5_1).toNat*3)).off+2,none⟩=some (.slice A401_2 ((rd_T42 l0 x5_1).f2).length c401_2)∧w'.cell? (ad402.add ((x5_1).toNat*3))=some (.bool ((rd_T42 l1 x5_1).f0))∧w'.cell? ⟨(ad402.add ((x5_1).toNat*3)).block,(ad402.add ((x5_1).toNat*3)).off+1,none⟩=some (.string ((rd_T42 l1 x5_1).f1))∧w'.cell? ⟨(ad402.add ((x5_1).toNat*3)).block,(ad402.add ((x5_1).toNat*3)).off+2,none⟩=some (.slice A402_2 ((rd_T42 l1 x5_1).f2).length c402_2)) (ds:=[]) bffc_0 (by kernel_rfl) rfl rfl ⟨(mx_ HB hw401_0),(mx_ HB hw401_1),(mx_ HB hw401_2),(mx_ HB hw402_0),(mx_ HB hw402_1),(mx_ HB hw402_2)⟩ (fun hHeld=>?_);refine with_tabW laws_eqPatternS.tab6 laws_eqPatternS.bits6 (fun HT_ HW_=>?_);generalize wr.drew=w9 at HB HR401_2 HR402_2 hx401_0 hx401_1 hx401_2 hx402_0 hx402_1 hx402_2 hHeld ⊢;refine pu_ 0 17 bffc_1 (any_of HT_.out (by kernel_rfl)) ?_;refine pu_ 1 18 bffc_2 (any_of HT_.out (by kernel_rfl)) ?_;refine pu_ 2 19 bffc_3 (any_of HT_.out (by kernel_rfl)) ?_;refine pu_ 4 21 bffc_4 (any_of HT_.out (by kernel_rfl)) ?_;refine pu_ 5 22 bffc_5 (any_of HT_.out (by kernel_rfl)) ?_;refine pu_ 6 23 bffc_6 (any_of HT_.out (by kernel_rfl)) ?_;refine tk_ 3 20 bffc_7 (take_ofW HT_.out HW_.out (by kernel_rfl)) hHeld ?_;refine tk_ 7 24 bffc_8 (take_ofW HT_.out HW_.out (by kernel_rfl)) hHeld ?_;refine one_ (i:=8) (N:=some 25) bffc_9 rfl rfl (one_of HT_.out (by kernel_rfl)) (by decide) (fun K hK=>?_);refine goes_ Tryz.func140 (by kernel_rfl) rfl #[.agg #[.bool ((rd_T42 l0 x5_1).f0),.string ((rd_T42 l0 x5_1).f1),.slice A401_2 ((rd_T42 l0 x5_1).f2).length c401_2],.agg #[.bool ((rd_T42 l1 x5_1).f0),.string ((rd_T42 l1 x5_1).f1),.slice A402_2 ((rd_T42 l1 x5_1).f2).length c402_2]] (by rfl) rfl rfl mw_ ?_
    with_reducible refine (laws_eqPattern.calls k1 ((rd_T42 l0 x5_1).f0) ((rd_T42 l0 x5_1).f1) _ _ ((rd_T42 l0 x5_1).f2) ((rd_T42 l1 x5_1).f0) ((rd_T42 l1 x5_1).f1) _ _ ((rd_T42 l1 x5_1).f2) true _ ?side1 ?side2 ?side3 ?side4 A7.out).mono ?_
    (case side1=>exact mt_ HR401_2 HB)
    (case side2=>exact HC401_2.out)
    (case side3=>exact mt_ HR402_2 HB)
    (case side4=>exact HC402_2.out)
    rintro e w10 ⟨rfl,hb⟩;refine ⟨_,rfl,?_⟩;replace HB:=ms_ HB hb;(try clear hb);(try clear hb2);(try clear hk);(try clear hi);refine hK.out _ _ ⟨(mx_ HB hw401_0),(mx_ HB hw401_1),(mx_ HB hw401_2),(mx_ HB hw402_0),(mx_ HB hw402_1),(mx_ HB hw402_2)⟩ (fun hHeld=>?_);clear hK K;refine nm_ 25 ?_;refine pu_ 9 26 bffc_10 (any_of HT_.out (by kernel_rfl)) ?_;refine done_ (done_of HT_.out (by kernel_rfl)) ?_;try go_wp2
    go_roundg k1
    case measure=>
     have:=HK1.out
     omega
    case rel=>exact ⟨(wrap64 (x5_1+1)),mq_,H',⟨by have:=HK1.out;omega⟩,⟨mb_ HB⟩⟩
   ·replace c8:=Bool.eq_false_iff.mpr c8;subst c8;rw [if_neg (show ¬(false=true) by decide)] at H;exact absurd (Option.some.inj H) (by decide)
  ·rw [if_neg c4] at H;have c4b0:=cf_ c4;clear c4;clear H;go_wp2;go_ret;exact ⟨me_,mb_ HB⟩
 ·rw [if_neg c3] at H;obtain ⟨c3b0,c3b1⟩:=bn_ c3;have c3b2:(l0.length==l1.length)=false:=by first|simpa using c3|(simp at c3 ⊢;omega)
  exact absurd (Option.some.inj H) (by decide)
def laws_eqExpr.f (a0_0:Int) (a0_1:Int) (a0_2:ByteArray) (a0_3:Int) (a0_4:Int) (a0_5:ByteArray) (a0_6:Int) (a0_7:Int) (a1_0:Int) (a1_1:Int) (a1_2:ByteArray) (a1_3:Int) (a1_4:Int) (a1_5:ByteArray) (a1_6:Int) (a1_7:Int):Option (Bool):=if a0_0=a1_0 then (if a0_1=a1_1 then (if a0_2.toList=a1_2.toList then ((laws_eqValue.f a0_3 a0_4 a0_5 a1_3 a1_4 a1_5).bind fun t406=>(if t406=true then (if a0_6=a1_6 then (if a0_7=a1_7 then (some true) else (some false)) else (some false)) else (some false))) else (some false)) else (some false)) else (some false)
set_option maxHeartbeats 8000000 in
set_option maxRecDepth 100000 in
theorem laws_eqExpr.calls (a0_0:Int) (a0_1:Int) (a0_2:ByteArray) (a0_3:Int) (a0_4:Int) (a0_5:ByteArray) (a0_6:Int) (a0_7:Int) (a1_0:Int) (a1_1:Int) (a1_2:ByteArray) (a1_3:Int) (a1_4:Int) (a1_5:ByteArray) (a1_6:Int) (a1_7:Int) (r:Bool) (w:World) (h:laws_eqExpr.f a0_0 a0_1 a0_2 a0_3 a0_4 a0_5 a0_6 a0_7 a1_0 a1_1 a1_2 a1_3 a1_4 a1_5 a1_6 a1_7=some r) (hT_:r=true:=by first|rfl|assumption):
  Calls Tryz.prog 141 #[.agg #[.int .i64 a0_0,.int .u8 a0_1,.string a0_2,.int .i64 a0_3,.int .i64 a0_4,.string a0_5,.int .i64 a0_6,.int .i64 a0_7],.agg #[.int .i64 a1_0,.int .u8 a1_1,.string a1_2,.int .i64 a1_3,.int .i64 a1_4,.string a1_5,.int .i64 a1_6,.int .i64 a1_7]] w fun e w'=>e=.returned (.bool r)∧Below w.heap.size w w':=by
 subst hT_;have hu161:=Tryz.underlying161;have hu80:=Tryz.underlying80;have HB:=a_ (Below.refl w.heap.size w);have H:=h;unfold laws_eqExpr.f at H
 clear h;by_cases c3:a0_0=a1_0
 case neg=>
  rw [if_neg c3] at H;obtain ⟨c3b0,c3b1⟩:=bn_ c3;exact absurd (Option.some.inj H) (by decide)
 rw [if_pos c3] at H;obtain ⟨c3b0,c3b1⟩:=bq_ c3;clear c3;by_cases c4:a0_1=a1_1
 case neg=>
  rw [if_neg c4] at H;obtain ⟨c4b0,c4b1⟩:=bn_ c4;exact absurd (Option.some.inj H) (by decide)
 rw [if_pos c4] at H;obtain ⟨c4b0,c4b1⟩:=bq_ c4;clear c4;by_cases c5:a0_2.toList=a1_2.toList
 case neg=>
  rw [if_neg c5] at H;obtain ⟨c5b0,c5b1⟩:=bn_ c5;exact absurd (Option.some.inj H) (by decide)
 rw [if_pos c5] at H;obtain ⟨c5b0,c5b1⟩:=bq_ c5;clear c5;obtain ⟨t406,A6,H⟩:=ob_ H;by_cases c7:t406=true
 ·subst c7;rw [if_pos rfl] at H;by_cases c8:a0_6=a1_6
  case neg=>
   rw [if_neg c8] at H;obtain ⟨c8b0,c8b1⟩:=bn_ c8;exact absurd (Option.some.inj H) (by decide)
  rw [if_pos c8] at H;obtain ⟨c8b0,c8b1⟩:=bq_ c8;clear c8;by_cases c9:a0_7=a1_7
  case neg=>
   rw [if_neg c9] at H;obtain ⟨c9b0,c9b1⟩:=bn_ c9;exact absurd (Option.some.inj H) (by decide)
  rw [if_pos c9] at H;obtain ⟨c9b0,c9b1⟩:=bq_ c9;clear c9;clear H;go_enter Tryz.func141,Tryz.ntmps141;go_wp2_with (first|((with_reducible refine gate_dst (N:=2) rfl ?_);refine bh_ 2 #[.int .i64 a0_0,.int .u8 a0_1,.string a0_2,.int .i64 a0_3,.int .i64 a0_4,.string a0_5,.int .i64 a0_6,.int .i64 a0_7] 161 HB ?_;intro gb404 hg wx BK404 GE404 hb;replace HB:=ms_ HB hb;clear hb hg)|((with_reducible refine gate_dst (N:=3) rfl ?_);refine bh_ 3 #[.int .i64 a1_0,.int .u8 a1_1,.string a1_2,.int .i64 a1_3,.int .i64 a1_4,.string a1_5,.int .i64 a1_6,.int .i64 a1_7] 161 HB ?_;intro gb405 hg wx BK405 GE405 hb;obtain ⟨NB404_405,NB405_404⟩:=mn_ BK404 hg;replace BK404:=mk_ BK404 hb;replace HB:=ms_ HB hb;clear hb hg;have nNB404_405:=NB404_405.out;have nNB405_404:=NB405_404.out;replace hz404:=cz8 BK404;replace hz405:=cz8 BK405)|((with_reducible refine gate_callee (f:=173) rfl ?_);refine goesL_ (some 24) rfl rfl Tryz.func173 (by kernel_rfl) rfl #[.agg #[.int .i64 a0_3,.int .i64 a0_4,.string a0_5],.agg #[.int .i64 a1_3,.int .i64 a1_4,.string a1_5]] rfl mw_ ?_;(with_reducible refine (laws_eqValue.calls a0_3 a0_4 a0_5 a1_3 a1_4 a1_5 true _ A6.out).mono ?_);rintro e wx ⟨rfl,hb⟩;refine ⟨_,rfl,?_⟩;replace BK404:=mk_ BK404 hb;replace BK405:=mk_ BK405 hb;replace HB:=ms_ HB hb;(try clear hb);replace hz404:=cz8 BK404;replace hz405:=cz8 BK405));go_ret;exact ⟨me_,mb_ HB⟩
 ·replace c7:=Bool.eq_false_iff.mpr c7;subst c7;rw [if_neg (show ¬(false=true) by decide)] at H;exact absurd (Option.some.inj H) (by decide)
def laws_eqExprS.l0:Nat→List (S161)→List (S161)→Int→Option (Bool)
 | 0,_,_,_=>none
 | k+1,x0,x1,x5=>if x5<(x0.length:Int) then (if 0≤x5 then (if x5<(x1.length:Int) then ((laws_eqExpr.f ((rd_T161 x0 x5).f0) ((rd_T161 x0 x5).f1) ((rd_T161 x0 x5).f2) ((rd_T161 x0 x5).f3.f0) ((rd_T161 x0 x5).f3.f1) ((rd_T161 x0 x5).f3.f2) ((rd_T161 x0 x5).f4) ((rd_T161 x0 x5).f5) ((rd_T161 x1 x5).f0) ((rd_T161 x1 x5).f1) ((rd_T161 x1 x5).f2) ((rd_T161 x1 x5).f3.f0) ((rd_T161 x1 x5).f3.f1) ((rd_T161 x1 x5).f3.f2) ((rd_T161 x1 x5).f4) ((rd_T161 x1 x5).f5)).bind fun t409=>(if t409=true then (laws_eqExprS.l0 k x0 x1 (wrap64 (x5+1))) else (some false))) else (none)) else (none)) else (some true)
def laws_eqExprS.f (k:Nat) (l0:List (S161)) (l1:List (S161)):Option (Bool):=if (l0.length:Int)=(l1.length:Int) then (laws_eqExprS.l0 k l0 l1 0) else (some false)
theorem laws_eqExprS.mono_l:∀k,(∀y0 y1 y2,LeO (laws_eqExprS.l0 k y0 y1 y2) (laws_eqExprS.l0 (k+1) y0 y1 y2))
 | 0=>fun _ _ _ r h=>by simp [laws_eqExprS.l0] at h
 | k+1=>by
  have ih0:=laws_eqExprS.mono_l k
  ·intro y0 y1 y2;unfold laws_eqExprS.l0
   repeat' with_reducible first|apply ih0|apply LeO.refl|apply LeO.none|refine LeO.ite ?_ ?_|refine LeO.bind ?_ (fun _=>?_)
theorem laws_eqExprS.mono:∀a0 a1 k,LeO (laws_eqExprS.f k a0 a1) (laws_eqExprS.f (k+1) a0 a1):=by
 intro a0 a1 k;have ih0:=laws_eqExprS.mono_l k;unfold laws_eqExprS.f
 repeat' with_reducible first|apply ih0|apply LeO.refl|apply LeO.none|refine LeO.ite ?_ ?_|refine LeO.bind ?_ (fun _=>?_)
def laws_eqExprS.T6:Bool×List (List Nat×List Nat):=(true,[([],[]),([],[]),([0,1],[0,1]),([2],[2]),([],[]),([],[]),([4,5],[4,5]),([6],[6]),([3,7],[3,7]),([8],[8])])
def laws_eqExprS.B6:List Nat:=[0,0,3,7,0,0,48,112,255,511]
theorem laws_eqExprS.tab6:rtab .any (opsOf Tryz.f92 6)=laws_eqExprS.T6:=by kernel_rfl
theorem laws_eqExprS.bits6:waitsOk laws_eqExprS.T6.2 laws_eqExprS.B6=true:=by kernel_rfl
set_option maxHeartbeats 8000000 in
set_option maxRecDepth 100000 in
theorem laws_eqExprS.calls (k:Nat) (A0:Option Addr) (c0:Nat) (l0:List (S161)) (A1:Option Addr) (c1:Nat) (l1:List (S161)) (r:Bool) (w:World) (hr0:Kd.C k161 w A0 l0.length l0) (hc0:l0.length≤c0) (hr1:Kd.C k161 w A1 l1.length l1) (hc1:l1.length≤c1) (h:laws_eqExprS.f k l0 l1=some r) (hT_:r=true:=by first|rfl|assumption):
  Calls Tryz.prog 92 #[.slice A0 l0.length c0,.slice A1 l1.length c1] w fun e w'=>e=.returned (.bool r)∧Below w.heap.size w w':=by
 subst hT_;have hu161:=Tryz.underlying161;have HR0:=a_ hr0;have HC0:=a_ hc0;clear hr0 hc0;have HR1:=a_ hr1;have HC1:=a_ hc1;clear hr1 hc1;have HB:=a_ (Below.refl w.heap.size w);have H:(if (l0.length:Int)=(l1.length:Int) then (laws_eqExprS.l0 k l0 l1 0) else (some false))=some true:=h
 clear h;by_cases c3:(l0.length:Int)=(l1.length:Int)
 ·rw [if_pos c3] at H;obtain ⟨c3b0,c3b1⟩:=bq_ c3;have c3b2:(l0.length==l1.length)=true:=by first|simpa using c3|(simp at c3 ⊢;omega)
  clear c3;have H':=a_ H;clear H;go_enter Tryz.func92,Tryz.ntmps92;go_wp2;go_loopg [5] k (fun kq v5 w'=>∃(x5_1:Int),v5=.int .i64 x5_1∧Aside0 (laws_eqExprS.l0 kq l0 l1 x5_1=some true)∧Aside0 (kq≤k)∧Aside0 (Below w.heap.size w w'))
  case atStart=>exact ⟨(0),mq_,H',⟨Nat.le_refl _⟩,⟨mb_ HB⟩⟩
  clear H';(try clear c3b0);(try clear c3b1);(try clear c3b2);obtain ⟨x5_1,rfl,HA,HK1,HB⟩:=hrel;obtain _|k1:=gk
  ·exact absurd HA.out (by simp [laws_eqExprS.l0])
  have H:=HA.out;clear HA;simp only [laws_eqExprS.l0] at H;by_cases c4:x5_1<(l0.length:Int)
  ·rw [if_pos c4] at H;have c4b0:=ct_ c4;clear c4;by_cases c5:0≤x5_1
   case neg=>
    rw [if_neg c5] at H;cases H
   rw [if_pos c5] at H;have c5b0:=ct_ c5;clear c5;by_cases c6:x5_1<(l1.length:Int)
   case neg=>
    rw [if_neg c6] at H;cases H
   rw [if_pos c6] at H;have c6b0:=ct_ c6;clear c6;obtain ⟨t409,A7,H⟩:=ob_ H;by_cases c8:t409=true
   ·subst c8;rw [if_pos rfl] at H;have H':=a_ H;clear H;try go_wp2
    replace HB:=a_ (below_drew1 HB.out);have p407:0≤(x5_1:Int):=md_
    have q407:x5_1<(l0.length:Int):=md_
    obtain ⟨ad407,e407,hx407_0,hx407_1,hx407_2,hx407_3,hx407_4,hx407_5,hx407_6,hx407_7⟩:=at_T161 HR0.out x5_1 p407 q407;have hw407_7:=hx407_7;have hw407_6:=hx407_6;have hw407_5:=hx407_5;have hw407_4:=hx407_4;have hw407_3:=hx407_3;have hw407_2:=hx407_2;have hw407_1:=hx407_1;have hw407_0:=hx407_0;cases e407;replace hx407_0:=mx_ HB hx407_0;replace hx407_1:=mx_ HB hx407_1;replace hx407_2:=mx_ HB hx407_2;replace hx407_3:=mx_ HB hx407_3;replace hx407_4:=mx_ HB hx407_4;replace hx407_5:=mx_ HB hx407_5;replace hx407_6:=mx_ HB hx407_6;replace hx407_7:=mx_ HB hx407_7;replace p407:=eq_true p407;replace q407:=eq_true q407;have p408:0≤(x5_1:Int):=md_
    have q408:x5_1<(l1.length:Int):=md_
    obtain ⟨ad408,e408,hx408_0,hx408_1,hx408_2,hx408_3,hx408_4,hx408_5,hx408_6,hx408_7⟩:=at_T161 HR1.out x5_1 p408 q408;have hw408_7:=hx408_7;have hw408_6:=hx408_6;have hw408_5:=hx408_5;have hw408_4:=hx408_4;have hw408_3:=hx408_3;have hw408_2:=hx408_2;have hw408_1:=hx408_1;have hw408_0:=hx408_0;cases e408;replace hx408_0:=mx_ HB hx408_0;replace hx408_1:=mx_ HB hx408_1;replace hx408_2:=mx_ HB hx408_2;replace hx408_3:=mx_ HB hx408_3;replace hx408_4:=mx_ HB hx408_4;replace hx408_5:=mx_ HB hx408_5;replace hx408_6:=mx_ HB hx408_6;replace hx408_7:=mx_ HB hx408_7;replace p408:=eq_true p408;replace q408:=eq_true q408;refine start_ (n:=10) (S:=fun w'=>w'.cell? (ad407.add ((x5_1).toNat*8))=some (.int .i64 ((rd_T161 l0 x5_1).f0))∧w'.cell? ⟨(ad407.add ((x5_1).toNat*8)).block,(ad407.add ((x5_1).toNat*8)).off+1,none⟩=some (.int .u8 ((rd_T161 l0 x5_1).f1))∧w'.cell? ⟨(ad407.add ((x5_1).toNat*8)).block,(ad407.add ((x5_1).toNat*8)).off+2,none⟩=some (.string ((rd_T161 l0 x5_1).f2))∧w'.cell? ⟨(ad407.add ((x5_1).toNat*8)).block,(ad407.add ((x5_1).toNat*8)).off+3,none⟩=some (.int .i64 ((rd_T161 l0 x5_1).f3.f0))∧w'.cell? ⟨(ad407.add ((x5_1).toNat*8)).block,(ad407.add ((x5_1).toNat*8)).off+4,none⟩=some (.int .i64 ((rd_T161 l0 x5_1).f3.f1))∧w'.cell? ⟨(ad407.add ((x5_1).toNat*8)).block,(ad407.add ((x5_1).toNat*8)).off+5,none⟩=some (.string ((rd_T161 l0 x5_1).f3.f2))∧w'.cell? ⟨(ad407.add ((x5_1).toNat*8)).block,(ad407.add ((x5_1).toNat*8)).off+6,none⟩=some (.int .i64 ((rd_T161 l0 x5_1).f4))∧w'.cell? ⟨(ad407.add ((x5_1).toNat*8)).block,(ad407.add ((x5_1).toNat*8)).off+7,none⟩=some (.int .i64 ((rd_T161 l0 x5_1).f5))∧w'.cell? (ad408.add ((x5_1).toNat*8))=some (.int .i64 ((rd_T161 l1 x5_1).f0))∧w'.cell? ⟨(ad408.add ((x5_1).toNat*8)).block,(ad408.add ((x5_1).toNat*8)).off+1,none⟩=some (.int .u8 ((rd_T161 l1 x5_1).f1))∧w'.cell? ⟨(ad408.add ((x5_1).toNat*8)).block,(ad408.add ((x5_1).toNat*8)).off+2,none⟩=some (.string ((rd_T161 l1 x5_1).f2))∧w'.cell? ⟨(ad408.add ((x5_1).toNat*8)).block,(ad408.add ((x5_1).toNat*8)).off+3,none⟩=some (.int .i64 ((rd_T161 l1 x5_1).f3.f0))∧w'.cell? ⟨(ad408.add ((x5_1).toNat*8)).block,(ad408.add ((x5_1).toNat*8)).off+4,none⟩=some (.int .i64 ((rd_T161 l1 x5_1).f3.f1))∧w'.cell? ⟨(ad408.add ((x5_1).toNat*8)).block,(ad408.add ((x5_1).toNat*8)).off+5,none⟩=some (.string ((rd_T161 l1 x5_1).f3.f2))∧w'.cell? ⟨(ad408.add ((x5_1).toNat*8)).block,(ad408.add ((x5_1).toNat*8)).off+6,none⟩=some (.int .i64 ((rd_T161 l1 x5_1).f4))∧w'.cell? ⟨(ad408.add ((x5_1).toNat*8)).block,(ad408.add ((x5_1).toNat*8)).off+7,none⟩=some (.int .i64 ((rd_T161 l1 x5_1).f5))) (ds:=[]) bffc_0 (by kernel_rfl) rfl rfl ⟨(mx_ HB hw407_0),(mx_ HB hw407_1),(mx_ HB hw407_2),(mx_ HB hw407_3),(mx_ HB hw407_4),(mx_ HB hw407_5),(mx_ HB hw407_6),(mx_ HB hw407_7),(mx_ HB hw408_0),(mx_ HB hw408_1),(mx_ HB hw408_2),(mx_ HB hw408_3),(mx_ HB hw408_4),(mx_ HB hw408_5),(mx_ HB hw408_6),(mx_ HB hw408_7)⟩ (fun hHeld=>?_);refine with_tabW laws_eqExprS.tab6 laws_eqExprS.bits6 (fun HT_ HW_=>?_)
    generalize wr.drew=w9 at HB hx407_0 hx407_1 hx407_2 hx407_3 hx407_4 hx407_5 hx407_6 hx407_7 hx408_0 hx408_1 hx408_2 hx408_3 hx408_4 hx408_5 hx408_6 hx408_7 hHeld ⊢;refine pu_ 0 17 bffc_1 (any_of HT_.out (by kernel_rfl)) ?_;refine pu_ 1 18 bffc_2 (any_of HT_.out (by kernel_rfl)) ?_;refine pu_ 2 19 bffc_3 (any_of HT_.out (by kernel_rfl)) ?_;refine pu_ 4 21 bffc_4 (any_of HT_.out (by kernel_rfl)) ?_;refine pu_ 5 22 bffc_5 (any_of HT_.out (by kernel_rfl)) ?_;refine pu_ 6 23 bffc_6 (any_of HT_.out (by kernel_rfl)) ?_;refine tk_ 3 20 bffc_7 (take_ofW HT_.out HW_.out (by kernel_rfl)) hHeld ?_;refine tk_ 7 24 bffc_8 (take_ofW HT_.out HW_.out (by kernel_rfl)) hHeld ?_;refine one_ (i:=8) (N:=some 25) bffc_9 rfl rfl (one_of HT_.out (by kernel_rfl)) (by decide) (fun K hK=>?_);refine goes_ Tryz.func141 (by kernel_rfl) rfl #[.agg #[.int .i64 ((rd_T161 l0 x5_1).f0),.int .u8 ((rd_T161 l0 x5_1).f1),.string ((rd_T161 l0 x5_1).f2),.int .i64 ((rd_T161 l0 x5_1).f3.f0),.int .i64 ((rd_T161 l0 x5_1).f3.f1),.string ((rd_T161 l0 x5_1).f3.f2),.int .i64 ((rd_T161 l0 x5_1).f4),.int .i64 ((rd_T161 l0 x5_1).f5)],.agg #[.int .i64 ((rd_T161 l1 x5_1).f0),.int .u8 ((rd_T161 l1 x5_1).f1),.string ((rd_T161 l1 x5_1).f2),.int .i64 ((rd_T161 l1 x5_1).f3.f0),.int .i64 ((rd_T161 l1 x5_1).f3.f1),.string ((rd_T161 l1 x5_1).f3.f2),.int .i64 ((rd_T161 l1 x5_1).f4),.int .i64 ((rd_T161 l1 x5_1).f5)]] (by rfl) rfl rfl mw_ ?_;with_reducible refine (laws_eqExpr.calls ((rd_T161 l0 x5_1).f0) ((rd_T161 l0 x5_1).f1) ((rd_T161 l0 x5_1).f2) ((rd_T161 l0 x5_1).f3.f0) ((rd_T161 l0 x5_1).f3.f1) ((rd_T161 l0 x5_1).f3.f2) ((rd_T161 l0 x5_1).f4) ((rd_T161 l0 x5_1).f5) ((rd_T161 l1 x5_1).f0) ((rd_T161 l1 x5_1).f1) ((rd_T161 l1 x5_1).f2) ((rd_T161 l1 x5_1).f3.f0) ((rd_T161 l1 x5_1).f3.f1) ((rd_T161 l1 x5_1).f3.f2) ((rd_T161 l1 x5_1).f4) ((rd_T161 l1 x5_1).f5) true _ A7.out).mono ?_
    rintro e w10 ⟨rfl,hb⟩;refine ⟨_,rfl,?_⟩;replace HB:=ms_ HB hb;(try clear hb);(try clear hb2);(try clear hk);(try clear hi);refine hK.out _ _ ⟨(mx_ HB hw407_0),(mx_ HB hw407_1),(mx_ HB hw407_2),(mx_ HB hw407_3),(mx_ HB hw407_4),(mx_ HB hw407_5),(mx_ HB hw407_6),(mx_ HB hw407_7),(mx_ HB hw408_0),(mx_ HB hw408_1),(mx_ HB hw408_2),(mx_ HB hw408_3),(mx_ HB hw408_4),(mx_ HB hw408_5),(mx_ HB hw408_6),(mx_ HB hw408_7)⟩ (fun hHeld=>?_);clear hK K;refine nm_ 25 ?_;refine pu_ 9 26 bffc_10 (any_of HT_.out (by kernel_rfl)) ?_;refine done_ (done_of HT_.out (by kernel_rfl)) ?_;try go_wp2
    go_roundg k1
    case measure=>
     have:=HK1.out
     omega
    case rel=>exact ⟨(wrap64 (x5_1+1)),mq_,H',⟨by have:=HK1.out;omega⟩,⟨mb_ HB⟩⟩
   ·replace c8:=Bool.eq_false_iff.mpr c8;subst c8;rw [if_neg (show ¬(false=true) by decide)] at H;exact absurd (Option.some.inj H) (by decide)
  ·rw [if_neg c4] at H;have c4b0:=cf_ c4;clear c4;clear H;go_wp2;go_ret;exact ⟨me_,mb_ HB⟩
 ·rw [if_neg c3] at H;obtain ⟨c3b0,c3b1⟩:=bn_ c3;have c3b2:(l0.length==l1.length)=false:=by first|simpa using c3|(simp at c3 ⊢;omega)
  exact absurd (Option.some.inj H) (by decide)
end Go.Proofs.YtahambloheoebaaGreatDoor.P
namespace Go.Proofs.YtahambloheoebaaGreatDoor.P
open Go.Proofs.YtahambloheoebaaGreatDoorX
open Go.RowKit Go.Proofs.YtahambloheoebaaGreatDoorW.PrintWords Go.Proofs.YtahambloheoebaaGreatDoorW.PrintLast Go.Proofs.YtahambloheoebaaGreatDoorW.PrintMore
attribute [local go_sem] max2_int min2_int max_two min_two max_three min_three max_four min_four
set_option linter.unusedVariables false
set_option linter.unusedSimpArgs false
def laws_eqIntS.l0:Nat→List Int→List Int→Int→Option (Bool)
 | 0,_,_,_=>none
 | k+1,x0,x1,x5=>if x5<(x0.length:Int) then (if 0≤x5 then (if x5<(x1.length:Int) then (if (rd x0 x5)=(rd x1 x5) then (laws_eqIntS.l0 k x0 x1 (wrap64 (x5+1))) else (some false)) else (none)) else (none)) else (some true)
def laws_eqIntS.f (k:Nat) (l0:List Int) (l1:List Int):Option (Bool):=if (l0.length:Int)=(l1.length:Int) then (laws_eqIntS.l0 k l0 l1 0) else (some false)
theorem laws_eqIntS.mono_l:∀k,(∀y0 y1 y2,LeO (laws_eqIntS.l0 k y0 y1 y2) (laws_eqIntS.l0 (k+1) y0 y1 y2))
 | 0=>fun _ _ _ r h=>by simp [laws_eqIntS.l0] at h
 | k+1=>by
  have ih0:=laws_eqIntS.mono_l k
  ·intro y0 y1 y2;unfold laws_eqIntS.l0
   repeat' with_reducible first|apply ih0|apply LeO.refl|apply LeO.none|refine LeO.ite ?_ ?_|refine LeO.bind ?_ (fun _=>?_)
theorem laws_eqIntS.mono:∀a0 a1 k,LeO (laws_eqIntS.f k a0 a1) (laws_eqIntS.f (k+1) a0 a1):=by
 intro a0 a1 k;have ih0:=laws_eqIntS.mono_l k;unfold laws_eqIntS.f
 repeat' with_reducible first|apply ih0|apply LeO.refl|apply LeO.none|refine LeO.ite ?_ ?_|refine LeO.bind ?_ (fun _=>?_)
set_option maxHeartbeats 8000000 in
set_option maxRecDepth 100000 in
theorem laws_eqIntS.calls (k:Nat) (A0:Option Addr) (c0:Nat) (l0:List Int) (A1:Option Addr) (c1:Nat) (l1:List Int) (r:Bool) (w:World) (hr0:Kd.C (Kd.int .i64) w A0 l0.length l0) (hc0:l0.length≤c0) (hr1:Kd.C (Kd.int .i64) w A1 l1.length l1) (hc1:l1.length≤c1) (h:laws_eqIntS.f k l0 l1=some r) (hT_:r=true:=by first|rfl|assumption):
  Calls Tryz.prog 97 #[.slice A0 l0.length c0,.slice A1 l1.length c1] w fun e w'=>e=.returned (.bool r)∧Drawn0 w w':=by
 subst hT_;have HR0:=a_ hr0;have HC0:=a_ hc0;clear hr0 hc0;have HR1:=a_ hr1;have HC1:=a_ hc1;clear hr1 hc1;have H:(if (l0.length:Int)=(l1.length:Int) then (laws_eqIntS.l0 k l0 l1 0) else (some false))=some true:=h
 clear h;by_cases c3:(l0.length:Int)=(l1.length:Int)
 ·rw [if_pos c3] at H;obtain ⟨c3b0,c3b1⟩:=bq_ c3;have c3b2:(l0.length==l1.length)=true:=by first|simpa using c3|(simp at c3 ⊢;omega)
  clear c3;have H':=a_ H;clear H;go_enter Tryz.func97,Tryz.ntmps97;go_wp2;repeat (go_quiet (fail);try go_wp2)
  go_loopg [5] k (fun kq v5 w'=>∃(x5_1:Int),v5=.int .i64 x5_1∧Aside0 (laws_eqIntS.l0 kq l0 l1 x5_1=some true)∧Aside0 (kq≤k)∧Drawn0 w w')
  case atStart=>exact ⟨(0),mq_,H',⟨Nat.le_refl _⟩,by repeat (first|exact Drawn0.refl _|apply Drawn0.step)⟩
  clear H';(try clear c3b0);(try clear c3b1);(try clear c3b2);obtain ⟨x5_1,rfl,HA,HK1,⟨m1,rfl⟩⟩:=hrel;obtain _|k1:=gk
  ·exact absurd HA.out (by simp [laws_eqIntS.l0])
  have H:=HA.out;clear HA;simp only [laws_eqIntS.l0] at H;by_cases c4:x5_1<(l0.length:Int)
  ·rw [if_pos c4] at H;have c4b0:=ct_ c4;clear c4;by_cases c5:0≤x5_1
   case neg=>
    rw [if_neg c5] at H;cases H
   rw [if_pos c5] at H;have c5b0:=ct_ c5;clear c5;by_cases c6:x5_1<(l1.length:Int)
   case neg=>
    rw [if_neg c6] at H;cases H
   rw [if_pos c6] at H;have c6b0:=ct_ c6;clear c6;by_cases c7:(rd l0 x5_1)=(rd l1 x5_1)
   case neg=>
    rw [if_neg c7] at H;obtain ⟨c7b0,c7b1⟩:=bn_ c7;exact absurd (Option.some.inj H) (by decide)
   rw [if_pos c7] at H;obtain ⟨c7b0,c7b1⟩:=bq_ c7;clear c7;have H':=a_ H;clear H;have p410:0≤(x5_1:Int):=md_
   have q410:x5_1<(l0.length:Int):=md_
   obtain ⟨ad410,e410,hx410_0⟩:=Kd.at_int HR0.out x5_1 p410 q410;cases e410;replace p410:=eq_true p410;replace q410:=eq_true q410;have p411:0≤(x5_1:Int):=md_
   have q411:x5_1<(l1.length:Int):=md_
   obtain ⟨ad411,e411,hx411_0⟩:=Kd.at_int HR1.out x5_1 p411 q411;cases e411;replace p411:=eq_true p411;replace q411:=eq_true q411;go_wp2;repeat (go_quiet (fail);try go_wp2)
   go_roundg k1
   case measure=>
    have:=HK1.out
    omega
   case rel=>exact ⟨(wrap64 (x5_1+1)),mq_,H',⟨by have:=HK1.out;omega⟩,by repeat (first|exact Drawn0.refl _|apply Drawn0.step)⟩
  ·rw [if_neg c4] at H;have c4b0:=cf_ c4;clear c4;clear H;go_wp2;repeat (go_quiet (fail);try go_wp2)
   go_ret;exact ⟨by first|rfl|(simp;done)|(simp [*];done),by repeat (first|exact Drawn0.refl _|apply Drawn0.step)⟩
 ·rw [if_neg c3] at H;obtain ⟨c3b0,c3b1⟩:=bn_ c3;have c3b2:(l0.length==l1.length)=false:=by first|simpa using c3|(simp at c3 ⊢;omega)
  exact absurd (Option.some.inj H) (by decide)
def laws_eqAction.f (k:Nat) (a0_0:Int) (a0_1:Int) (a0_2:ByteArray) (l0_3:List Int) (a1_0:Int) (a1_1:Int) (a1_2:ByteArray) (l1_3:List Int):Option (Bool):=if a0_0=a1_0 then (if a0_1=a1_1 then (if a0_2.toList=a1_2.toList then ((laws_eqIntS.f k l0_3 l1_3).bind fun t414=>(if t414=true then (some true) else (some false))) else (some false)) else (some false)) else (some false)
theorem laws_eqAction.mono:∀a0 a1 a2 a3 a4 a5 a6 a7 k,LeO (laws_eqAction.f k a0 a1 a2 a3 a4 a5 a6 a7) (laws_eqAction.f (k+1) a0 a1 a2 a3 a4 a5 a6 a7):=by
 intro a0 a1 a2 a3 a4 a5 a6 a7 k;unfold laws_eqAction.f
 repeat' with_reducible first|apply laws_eqIntS.mono|apply LeO.refl|apply LeO.none|refine LeO.ite ?_ ?_|refine LeO.bind ?_ (fun _=>?_)
set_option maxHeartbeats 8000000 in
set_option maxRecDepth 100000 in
theorem laws_eqAction.calls (k:Nat) (a0_0:Int) (a0_1:Int) (a0_2:ByteArray) (A0_3:Option Addr) (c0_3:Nat) (l0_3:List Int) (a1_0:Int) (a1_1:Int) (a1_2:ByteArray) (A1_3:Option Addr) (c1_3:Nat) (l1_3:List Int) (r:Bool) (w:World) (hr0_3:Kd.C (Kd.int .i64) w A0_3 l0_3.length l0_3) (hc0_3:l0_3.length≤c0_3) (hr1_3:Kd.C (Kd.int .i64) w A1_3 l1_3.length l1_3) (hc1_3:l1_3.length≤c1_3) (h:laws_eqAction.f k a0_0 a0_1 a0_2 l0_3 a1_0 a1_1 a1_2 l1_3=some r) (hT_:r=true:=by first|rfl|assumption):
  Calls Tryz.prog 142 #[.agg #[.int .i64 a0_0,.int .i64 a0_1,.string a0_2,.slice A0_3 l0_3.length c0_3],.agg #[.int .i64 a1_0,.int .i64 a1_1,.string a1_2,.slice A1_3 l1_3.length c1_3]] w fun e w'=>e=.returned (.bool r)∧Below w.heap.size w w':=by
 subst hT_;have hu98:=Tryz.underlying98;have HR0_3:=a_ hr0_3;have HC0_3:=a_ hc0_3;clear hr0_3 hc0_3;have HR1_3:=a_ hr1_3;have HC1_3:=a_ hc1_3;clear hr1_3 hc1_3;have HB:=a_ (Below.refl w.heap.size w);have H:=h;unfold laws_eqAction.f at H
 clear h;by_cases c3:a0_0=a1_0
 case neg=>
  rw [if_neg c3] at H;obtain ⟨c3b0,c3b1⟩:=bn_ c3;exact absurd (Option.some.inj H) (by decide)
 rw [if_pos c3] at H;obtain ⟨c3b0,c3b1⟩:=bq_ c3;clear c3;by_cases c4:a0_1=a1_1
 case neg=>
  rw [if_neg c4] at H;obtain ⟨c4b0,c4b1⟩:=bn_ c4;exact absurd (Option.some.inj H) (by decide)
 rw [if_pos c4] at H;obtain ⟨c4b0,c4b1⟩:=bq_ c4;clear c4;by_cases c5:a0_2.toList=a1_2.toList
 case neg=>
  rw [if_neg c5] at H;obtain ⟨c5b0,c5b1⟩:=bn_ c5;exact absurd (Option.some.inj H) (by decide)
 rw [if_pos c5] at H;obtain ⟨c5b0,c5b1⟩:=bq_ c5;clear c5;obtain ⟨t414,A6,H⟩:=ob_ H;by_cases c7:t414=true
 ·subst c7;rw [if_pos rfl] at H;clear H;go_enter Tryz.func142,Tryz.ntmps142;go_wp2_with (first|((with_reducible refine gate_dst (N:=2) rfl ?_);refine bh_ 2 #[.int .i64 a0_0,.int .i64 a0_1,.string a0_2,.slice A0_3 l0_3.length c0_3] 98 HB ?_;intro gb412 hg wx BK412 GE412 hb;replace HB:=ms_ HB hb;clear hb hg)|((with_reducible refine gate_dst (N:=3) rfl ?_);refine bh_ 3 #[.int .i64 a1_0,.int .i64 a1_1,.string a1_2,.slice A1_3 l1_3.length c1_3] 98 HB ?_;intro gb413 hg wx BK413 GE413 hb;obtain ⟨NB412_413,NB413_412⟩:=mn_ BK412 hg;replace BK412:=mk_ BK412 hb;replace HB:=ms_ HB hb;clear hb hg;have nNB412_413:=NB412_413.out;have nNB413_412:=NB413_412.out;replace hz412:=cz4 BK412;replace hz413:=cz4 BK413)|((with_reducible refine gate_callee (f:=97) rfl ?_);refine goesL_ (some 24) rfl rfl Tryz.func97 (by kernel_rfl) rfl #[.slice A0_3 l0_3.length c0_3,.slice A1_3 l1_3.length c1_3] rfl mw_ ?_;(with_reducible refine (laws_eqIntS.calls k _ _ l0_3 _ _ l1_3 true _ ?side1 HC0_3.out ?side3 HC1_3.out A6.out).mono ?_);(case side1=>exact mt_ HR0_3 HB);(case side3=>exact mt_ HR1_3 HB);rintro e w' ⟨rfl,⟨nd,rfl⟩⟩;refine ⟨_,rfl,?_⟩));go_ret;exact ⟨me_,mb_ HB⟩
 ·replace c7:=Bool.eq_false_iff.mpr c7;subst c7;rw [if_neg (show ¬(false=true) by decide)] at H;exact absurd (Option.some.inj H) (by decide)
def laws_eqActionS.l0:Nat→List (S98)→List (S98)→Int→Option (Bool)
 | 0,_,_,_=>none
 | k+1,x0,x1,x5=>if x5<(x0.length:Int) then (if 0≤x5 then (if x5<(x1.length:Int) then ((laws_eqAction.f k ((rd_T98 x0 x5).f0) ((rd_T98 x0 x5).f1) ((rd_T98 x0 x5).f2) ((rd_T98 x0 x5).f3) ((rd_T98 x1 x5).f0) ((rd_T98 x1 x5).f1) ((rd_T98 x1 x5).f2) ((rd_T98 x1 x5).f3)).bind fun t417=>(if t417=true then (laws_eqActionS.l0 k x0 x1 (wrap64 (x5+1))) else (some false))) else (none)) else (none)) else (some true)
def laws_eqActionS.f (k:Nat) (l0:List (S98)) (l1:List (S98)):Option (Bool):=if (l0.length:Int)=(l1.length:Int) then (laws_eqActionS.l0 k l0 l1 0) else (some false)
theorem laws_eqActionS.mono_l:∀k,(∀y0 y1 y2,LeO (laws_eqActionS.l0 k y0 y1 y2) (laws_eqActionS.l0 (k+1) y0 y1 y2))
 | 0=>fun _ _ _ r h=>by simp [laws_eqActionS.l0] at h
 | k+1=>by
  have ih0:=laws_eqActionS.mono_l k
  ·intro y0 y1 y2;unfold laws_eqActionS.l0
   repeat' with_reducible first|apply ih0|apply laws_eqAction.mono|apply LeO.refl|apply LeO.none|refine LeO.ite ?_ ?_|refine LeO.bind ?_ (fun _=>?_)
theorem laws_eqActionS.mono:∀a0 a1 k,LeO (laws_eqActionS.f k a0 a1) (laws_eqActionS.f (k+1) a0 a1):=by
 intro a0 a1 k;have ih0:=laws_eqActionS.mono_l k;unfold laws_eqActionS.f
 repeat' with_reducible first|apply ih0|apply laws_eqAction.mono|apply LeO.refl|apply LeO.none|refine LeO.ite ?_ ?_|refine LeO.bind ?_ (fun _=>?_)
def laws_eqActionS.T6:Bool×List (List Nat×List Nat):=(true,[([],[]),([],[]),([0,1],[0,1]),([2],[2]),([],[]),([],[]),([4,5],[4,5]),([6],[6]),([3,7],[3,7]),([8],[8])])
def laws_eqActionS.B6:List Nat:=[0,0,3,7,0,0,48,112,255,511]
theorem laws_eqActionS.tab6:rtab .any (opsOf Tryz.f93 6)=laws_eqActionS.T6:=by kernel_rfl
theorem laws_eqActionS.bits6:waitsOk laws_eqActionS.T6.2 laws_eqActionS.B6=true:=by kernel_rfl
abbrev b534_0:Array Bool:=#[f_,f_,f_,f_,f_,f_,f_,f_,f_,f_]
abbrev b534_1:Array Bool:=#[t_,f_,f_,f_,f_,f_,f_,f_,f_,f_]
abbrev b534_2:Array Bool:=#[t_,t_,f_,f_,f_,f_,f_,f_,f_,f_]
abbrev b534_3:Array Bool:=#[t_,t_,t_,f_,f_,f_,f_,f_,f_,f_]
abbrev b534_4:Array Bool:=#[t_,t_,t_,f_,t_,f_,f_,f_,f_,f_]
abbrev b534_5:Array Bool:=#[t_,t_,t_,f_,t_,t_,f_,f_,f_,f_]
abbrev b534_6:Array Bool:=#[t_,t_,t_,f_,t_,t_,t_,f_,f_,f_]
abbrev b534_7:Array Bool:=#[t_,t_,t_,t_,t_,t_,t_,f_,f_,f_]
abbrev b534_8:Array Bool:=#[t_,t_,t_,t_,t_,t_,t_,t_,f_,f_]
abbrev b534_9:Array Bool:=#[t_,t_,t_,t_,t_,t_,t_,t_,t_,f_]
abbrev b534_10:Array Bool:=#[t_,t_,t_,t_,t_,t_,t_,t_,t_,t_]
set_option maxHeartbeats 8000000 in
set_option maxRecDepth 100000 in
theorem laws_eqActionS.calls (k:Nat) (A0:Option Addr) (c0:Nat) (l0:List (S98)) (A1:Option Addr) (c1:Nat) (l1:List (S98)) (r:Bool) (w:World) (hr0:Kd.C k98 w A0 l0.length l0) (hc0:l0.length≤c0) (hr1:Kd.C k98 w A1 l1.length l1) (hc1:l1.length≤c1) (h:laws_eqActionS.f k l0 l1=some r) (hT_:r=true:=by first|rfl|assumption):
  Calls Tryz.prog 93 #[.slice A0 l0.length c0,.slice A1 l1.length c1] w fun e w'=>e=.returned (.bool r)∧Below w.heap.size w w':=by
 subst hT_;have hu98:=Tryz.underlying98;have HR0:=a_ hr0;have HC0:=a_ hc0;clear hr0 hc0;have HR1:=a_ hr1;have HC1:=a_ hc1;clear hr1 hc1;have HB:=a_ (Below.refl w.heap.size w);have H:=h;unfold laws_eqActionS.f at H
 clear h;by_cases c3:(l0.length:Int)=(l1.length:Int)
 ·rw [if_pos c3] at H;obtain ⟨c3b0,c3b1⟩:=bq_ c3;have c3b2:(l0.length==l1.length)=true:=by first|simpa using c3|(simp at c3 ⊢;omega)
  clear c3;have H':=a_ H;clear H;go_enter Tryz.func93,Tryz.ntmps93;go_wp2;go_loopg [5] k (fun kq v5 w'=>∃(x5_1:Int),v5=.int .i64 x5_1∧Aside0 (laws_eqActionS.l0 kq l0 l1 x5_1=some true)∧Aside0 (kq≤k)∧Aside0 (Below w.heap.size w w'))
  case atStart=>exact ⟨(0),mq_,H',⟨Nat.le_refl _⟩,⟨mb_ HB⟩⟩
  clear H';(try clear c3b0);(try clear c3b1);(try clear c3b2);obtain ⟨x5_1,rfl,HA,HK1,HB⟩:=hrel;obtain _|k1:=gk
  ·exact absurd HA.out (by simp [laws_eqActionS.l0])
  have H:=HA.out;clear HA;simp only [laws_eqActionS.l0] at H;by_cases c4:x5_1<(l0.length:Int)
  ·rw [if_pos c4] at H;have c4b0:=ct_ c4;clear c4;by_cases c5:0≤x5_1
   case neg=>
    rw [if_neg c5] at H;cases H
   rw [if_pos c5] at H;have c5b0:=ct_ c5;clear c5;by_cases c6:x5_1<(l1.length:Int)
   case neg=>
    rw [if_neg c6] at H;cases H
   rw [if_pos c6] at H;have c6b0:=ct_ c6;clear c6;obtain ⟨t417,A7,H⟩:=ob_ H;by_cases c8:t417=true
   ·subst c8;rw [if_pos rfl] at H;have H':=a_ H;clear H;try go_wp2
    replace HB:=a_ (below_drew1 HB.out);have p415:0≤(x5_1:Int):=md_
    have q415:x5_1<(l0.length:Int):=md_
    obtain ⟨ad415,A415_3,c415_3,e415,hx415_0,hx415_1,hx415_2,hx415_3,hl415_3,hi415_3⟩:=at_T98 HR0.out x5_1 p415 q415;have hw415_3:=hx415_3;have hw415_2:=hx415_2;have hw415_1:=hx415_1;have hw415_0:=hx415_0;cases e415;replace hx415_0:=mx_ HB hx415_0;replace hx415_1:=mx_ HB hx415_1;replace hx415_2:=mx_ HB hx415_2;replace hx415_3:=mx_ HB hx415_3;have HR415_3:=a_ hi415_3;have HC415_3:=a_ hl415_3;clear hi415_3 hl415_3;replace p415:=eq_true p415;replace q415:=eq_true q415;have p416:0≤(x5_1:Int):=md_
    have q416:x5_1<(l1.length:Int):=md_
    obtain ⟨ad416,A416_3,c416_3,e416,hx416_0,hx416_1,hx416_2,hx416_3,hl416_3,hi416_3⟩:=at_T98 HR1.out x5_1 p416 q416;have hw416_3:=hx416_3;have hw416_2:=hx416_2;have hw416_1:=hx416_1;have hw416_0:=hx416_0;cases e416;replace hx416_0:=mx_ HB hx416_0;replace hx416_1:=mx_ HB hx416_1;replace hx416_2:=mx_ HB hx416_2;replace hx416_3:=mx_ HB hx416_3;have HR416_3:=a_ hi416_3;have HC416_3:=a_ hl416_3;clear hi416_3 hl416_3;replace p416:=eq_true p416;replace q416:=eq_true q416;refine start_ (n:=10) (S:=fun w'=>w'.cell? (ad415.add ((x5_1).toNat*4))=some (.int .i64 ((rd_T98 l0 x5_1).f0))∧w'.cell? ⟨(ad415.add ((x5_1).toNat*4)).block,(ad415.add ((x5_1).toNat*4)).off+1,none⟩=some (.int .i64 ((rd_T98 l0 x5_1).f1))∧w'.cell? ⟨(ad415.add ((x5_1).toNat*4)).block,(ad415.add ((x5_1).toNat*4)).off+2,none⟩=some (.string ((rd_T98 l0 x5_1).f2))∧w'.cell? ⟨(ad415.add ((x5_1).toNat*4)).block,(ad415.add ((x5_1).toNat*4)).off+3,none⟩=some (.slice A415_3 ((rd_T98 l0 x5_1).f3).length c415_3)∧w'.cell? (ad416.add ((x5_1).toNat*4))=some (.int .i64 ((rd_T98 l1 x5_1).f0))∧w'.cell? ⟨(ad416.add ((x5_1).toNat*4)).block,(ad416.add ((x5_1).toNat*4)).off+1,none⟩=some (.int .i64 ((rd_T98 l1 x5_1).f1))∧w'.cell? ⟨(ad416.add ((x5_1).toNat*4)).block,(ad416.add ((x5_1).toNat*4)).off+2,none⟩=some (.string ((rd_T98 l1 x5_1).f2))∧w'.cell? ⟨(ad416.add ((x5_1).toNat*4)).block,(ad416.add ((x5_1).toNat*4)).off+3,none⟩=some (.slice A416_3 ((rd_T98 l1 x5_1).f3).length c416_3)) (ds:=[]) b534_0 (by kernel_rfl) rfl rfl ⟨(mx_ HB hw415_0),(mx_ HB hw415_1),(mx_ HB hw415_2),(mx_ HB hw415_3),(mx_ HB hw416_0),(mx_ HB hw416_1),(mx_ HB hw416_2),(mx_ HB hw416_3)⟩ (fun hHeld=>?_);refine with_tabW laws_eqActionS.tab6 laws_eqActionS.bits6 (fun HT_ HW_=>?_);generalize wr.drew=w9 at HB HR415_3 HR416_3 hx415_0 hx415_1 hx415_2 hx415_3 hx416_0 hx416_1 hx416_2 hx416_3 hHeld ⊢;refine pu_ 0 17 b534_1 (any_of HT_.out (by kernel_rfl)) ?_;refine pu_ 1 18 b534_2 (any_of HT_.out (by kernel_rfl)) ?_;refine pu_ 2 19 b534_3 (any_of HT_.out (by kernel_rfl)) ?_;refine pu_ 4 21 b534_4 (any_of HT_.out (by kernel_rfl)) ?_;refine pu_ 5 22 b534_5 (any_of HT_.out (by kernel_rfl)) ?_;refine pu_ 6 23 b534_6 (any_of HT_.out (by kernel_rfl)) ?_;refine tk_ 3 20 b534_7 (take_ofW HT_.out HW_.out (by kernel_rfl)) hHeld ?_;refine tk_ 7 24 b534_8 (take_ofW HT_.out HW_.out (by kernel_rfl)) hHeld ?_
    refine one_ (i:=8) (N:=some 25) b534_9 rfl rfl (one_of HT_.out (by kernel_rfl)) (by decide) (fun K hK=>?_);refine goes_ Tryz.func142 (by kernel_rfl) rfl #[.agg #[.int .i64 ((rd_T98 l0 x5_1).f0),.int .i64 ((rd_T98 l0 x5_1).f1),.string ((rd_T98 l0 x5_1).f2),.slice A415_3 ((rd_T98 l0 x5_1).f3).length c415_3],.agg #[.int .i64 ((rd_T98 l1 x5_1).f0),.int .i64 ((rd_T98 l1 x5_1).f1),.string ((rd_T98 l1 x5_1).f2),.slice A416_3 ((rd_T98 l1 x5_1).f3).length c416_3]] (by rfl) rfl rfl mw_ ?_;with_reducible refine (laws_eqAction.calls k1 ((rd_T98 l0 x5_1).f0) ((rd_T98 l0 x5_1).f1) ((rd_T98 l0 x5_1).f2) _ _ ((rd_T98 l0 x5_1).f3) ((rd_T98 l1 x5_1).f0) ((rd_T98 l1 x5_1).f1) ((rd_T98 l1 x5_1).f2) _ _ ((rd_T98 l1 x5_1).f3) true _ ?side1 ?side2 ?side3 ?side4 A7.out).mono ?_
    (case side1=>exact mt_ HR415_3 HB)
    (case side2=>exact HC415_3.out)
    (case side3=>exact mt_ HR416_3 HB)
    (case side4=>exact HC416_3.out)
    rintro e w10 ⟨rfl,hb⟩;refine ⟨_,rfl,?_⟩;replace HB:=ms_ HB hb;(try clear hb);(try clear hb2);(try clear hk);(try clear hi);refine hK.out _ _ ⟨(mx_ HB hw415_0),(mx_ HB hw415_1),(mx_ HB hw415_2),(mx_ HB hw415_3),(mx_ HB hw416_0),(mx_ HB hw416_1),(mx_ HB hw416_2),(mx_ HB hw416_3)⟩ (fun hHeld=>?_);clear hK K;refine nm_ 25 ?_;refine pu_ 9 26 b534_10 (any_of HT_.out (by kernel_rfl)) ?_;refine done_ (done_of HT_.out (by kernel_rfl)) ?_;try go_wp2
    go_roundg k1
    case measure=>
     have:=HK1.out
     omega
    case rel=>exact ⟨(wrap64 (x5_1+1)),mq_,H',⟨by have:=HK1.out;omega⟩,⟨mb_ HB⟩⟩
   ·replace c8:=Bool.eq_false_iff.mpr c8;subst c8;rw [if_neg (show ¬(false=true) by decide)] at H;exact absurd (Option.some.inj H) (by decide)
  ·rw [if_neg c4] at H;have c4b0:=cf_ c4;clear c4;clear H;go_wp2;go_ret;exact ⟨me_,mb_ HB⟩
 ·rw [if_neg c3] at H;obtain ⟨c3b0,c3b1⟩:=bn_ c3;have c3b2:(l0.length==l1.length)=false:=by first|simpa using c3|(simp at c3 ⊢;omega)
  exact absurd (Option.some.inj H) (by decide)
def laws_eqRule.f (k:Nat) (a0_0:ByteArray) (a0_1:Int) (l0_2:List (S42)) (l0_3:List (S161)) (l0_4:List (S98)) (a1_0:ByteArray) (a1_1:Int) (l1_2:List (S42)) (l1_3:List (S161)) (l1_4:List (S98)):Option (Bool):=if a0_0.toList=a1_0.toList then (if a0_1=a1_1 then ((laws_eqPatternS.f k l0_2 l1_2).bind fun t420=>(if t420=true then ((laws_eqExprS.f k l0_3 l1_3).bind fun t421=>(if t421=true then ((laws_eqActionS.f k l0_4 l1_4).bind fun t422=>(if t422=true then (some true) else (some false))) else (some false))) else (some false))) else (some false)) else (some false)
theorem laws_eqRule.mono:∀a0 a1 a2 a3 a4 a5 a6 a7 a8 a9 k,LeO (laws_eqRule.f k a0 a1 a2 a3 a4 a5 a6 a7 a8 a9) (laws_eqRule.f (k+1) a0 a1 a2 a3 a4 a5 a6 a7 a8 a9):=by
 intro a0 a1 a2 a3 a4 a5 a6 a7 a8 a9 k;unfold laws_eqRule.f
 repeat' with_reducible first|apply laws_eqActionS.mono|apply laws_eqExprS.mono|apply laws_eqPatternS.mono|apply LeO.refl|apply LeO.none|refine LeO.ite ?_ ?_|refine LeO.bind ?_ (fun _=>?_)
theorem u534_0 {p:Prop} (h:p:=by
 rw [if_neg (show ¬(false=true) by decide)] at H;exact absurd (Option.some.inj H) (by decide)):p:=h
set_option maxHeartbeats 8000000 in
set_option maxRecDepth 100000 in
theorem laws_eqRule.calls (k:Nat) (a0_0:ByteArray) (a0_1:Int) (A0_2:Option Addr) (c0_2:Nat) (l0_2:List (S42)) (A0_3:Option Addr) (c0_3:Nat) (l0_3:List (S161)) (A0_4:Option Addr) (c0_4:Nat) (l0_4:List (S98)) (a1_0:ByteArray) (a1_1:Int) (A1_2:Option Addr) (c1_2:Nat) (l1_2:List (S42)) (A1_3:Option Addr) (c1_3:Nat) (l1_3:List (S161)) (A1_4:Option Addr) (c1_4:Nat) (l1_4:List (S98)) (r:Bool) (w:World) (hr0_2:Kd.C k42 w A0_2 l0_2.length l0_2) (hc0_2:l0_2.length≤c0_2) (hr0_3:Kd.C k161 w A0_3 l0_3.length l0_3) (hc0_3:l0_3.length≤c0_3) (hr0_4:Kd.C k98 w A0_4 l0_4.length l0_4) (hc0_4:l0_4.length≤c0_4) (hr1_2:Kd.C k42 w A1_2 l1_2.length l1_2) (hc1_2:l1_2.length≤c1_2) (hr1_3:Kd.C k161 w A1_3 l1_3.length l1_3) (hc1_3:l1_3.length≤c1_3) (hr1_4:Kd.C k98 w A1_4 l1_4.length l1_4) (hc1_4:l1_4.length≤c1_4) (h:laws_eqRule.f k a0_0 a0_1 l0_2 l0_3 l0_4 a1_0 a1_1 l1_2 l1_3 l1_4=some r) (hT_:r=true:=by first|rfl|assumption):
  Calls Tryz.prog 47 #[.agg #[.string a0_0,.int .i64 a0_1,.slice A0_2 l0_2.length c0_2,.slice A0_3 l0_3.length c0_3,.slice A0_4 l0_4.length c0_4],.agg #[.string a1_0,.int .i64 a1_1,.slice A1_2 l1_2.length c1_2,.slice A1_3 l1_3.length c1_3,.slice A1_4 l1_4.length c1_4]] w fun e w'=>e=.returned (.bool r)∧Below w.heap.size w w':=by
 subst hT_;have hu39:=Tryz.underlying39;have HR0_2:=a_ hr0_2;have HC0_2:=a_ hc0_2;clear hr0_2 hc0_2;have HR0_3:=a_ hr0_3;have HC0_3:=a_ hc0_3;clear hr0_3 hc0_3;have HR0_4:=a_ hr0_4;have HC0_4:=a_ hc0_4;clear hr0_4 hc0_4;have HR1_2:=a_ hr1_2;have HC1_2:=a_ hc1_2;clear hr1_2 hc1_2;have HR1_3:=a_ hr1_3;have HC1_3:=a_ hc1_3;clear hr1_3 hc1_3;have HR1_4:=a_ hr1_4;have HC1_4:=a_ hc1_4;clear hr1_4 hc1_4;have HB:=a_ (Below.refl w.heap.size w);have H:=h;unfold laws_eqRule.f at H
 clear h;by_cases c3:a0_0.toList=a1_0.toList
 case neg=>
  rw [if_neg c3] at H;obtain ⟨c3b0,c3b1⟩:=bn_ c3;exact absurd (Option.some.inj H) (by decide)
 rw [if_pos c3] at H;obtain ⟨c3b0,c3b1⟩:=bq_ c3;clear c3;by_cases c4:a0_1=a1_1
 case neg=>
  rw [if_neg c4] at H;obtain ⟨c4b0,c4b1⟩:=bn_ c4;exact absurd (Option.some.inj H) (by decide)
 rw [if_pos c4] at H;obtain ⟨c4b0,c4b1⟩:=bq_ c4;clear c4;obtain ⟨t420,A5,H⟩:=ob_ H;by_cases c6:t420=true
 ·subst c6;rw [if_pos rfl] at H;obtain ⟨t421,A7,H⟩:=ob_ H;by_cases c8:t421=true
  ·subst c8;rw [if_pos rfl] at H;obtain ⟨t422,A9,H⟩:=ob_ H;by_cases c10:t422=true
   ·subst c10;rw [if_pos rfl] at H;clear H;go_enter Tryz.func47,Tryz.ntmps47;go_wp2_with (first|((with_reducible refine gate_dst (N:=2) rfl ?_);refine bh_ 2 #[.string a0_0,.int .i64 a0_1,.slice A0_2 l0_2.length c0_2,.slice A0_3 l0_3.length c0_3,.slice A0_4 l0_4.length c0_4] 39 HB ?_;intro gb418 hg wx BK418 GE418 hb;replace HB:=ms_ HB hb;clear hb hg)|((with_reducible refine gate_dst (N:=3) rfl ?_);refine bh_ 3 #[.string a1_0,.int .i64 a1_1,.slice A1_2 l1_2.length c1_2,.slice A1_3 l1_3.length c1_3,.slice A1_4 l1_4.length c1_4] 39 HB ?_;intro gb419 hg wx BK419 GE419 hb;obtain ⟨NB418_419,NB419_418⟩:=mn_ BK418 hg;replace BK418:=mk_ BK418 hb;replace HB:=ms_ HB hb;clear hb hg;have nNB418_419:=NB418_419.out;have nNB419_418:=NB419_418.out;replace hz418:=cz5 BK418;replace hz419:=cz5 BK419)|((with_reducible refine gate_callee (f:=91) rfl ?_);refine goesL_ (some 19) rfl rfl Tryz.func91 (by kernel_rfl) rfl #[.slice A0_2 l0_2.length c0_2,.slice A1_2 l1_2.length c1_2] rfl mw_ ?_;(with_reducible refine (laws_eqPatternS.calls k _ _ l0_2 _ _ l1_2 true _ ?side1 HC0_2.out ?side3 HC1_2.out A5.out).mono ?_);(case side1=>exact mt_ HR0_2 HB);(case side3=>exact mt_ HR1_2 HB);rintro e wx ⟨rfl,hb⟩;refine ⟨_,rfl,?_⟩;replace BK418:=mk_ BK418 hb;replace BK419:=mk_ BK419 hb;replace HB:=ms_ HB hb;(try clear hb);replace hz418:=cz5 BK418;replace hz419:=cz5 BK419)|((with_reducible refine gate_callee (f:=92) rfl ?_);refine goesL_ (some 25) rfl rfl Tryz.func92 (by kernel_rfl) rfl #[.slice A0_3 l0_3.length c0_3,.slice A1_3 l1_3.length c1_3] rfl mw_ ?_;(with_reducible refine (laws_eqExprS.calls k _ _ l0_3 _ _ l1_3 true _ ?side1 HC0_3.out ?side3 HC1_3.out A7.out).mono ?_);(case side1=>exact mt_ HR0_3 HB);(case side3=>exact mt_ HR1_3 HB);rintro e wx ⟨rfl,hb⟩;refine ⟨_,rfl,?_⟩;replace BK418:=mk_ BK418 hb;replace BK419:=mk_ BK419 hb;replace HB:=ms_ HB hb;(try clear hb);replace hz418:=cz5 BK418;replace hz419:=cz5 BK419)|((with_reducible refine gate_callee (f:=93) rfl ?_);refine goesL_ (some 31) rfl rfl Tryz.func93 (by kernel_rfl) rfl #[.slice A0_4 l0_4.length c0_4,.slice A1_4 l1_4.length c1_4] rfl mw_ ?_;(with_reducible refine (laws_eqActionS.calls k _ _ l0_4 _ _ l1_4 true _ ?side1 HC0_4.out ?side3 HC1_4.out A9.out).mono ?_);(case side1=>exact mt_ HR0_4 HB);(case side3=>exact mt_ HR1_4 HB);rintro e wx ⟨rfl,hb⟩;refine ⟨_,rfl,?_⟩;replace BK418:=mk_ BK418 hb;replace BK419:=mk_ BK419 hb;replace HB:=ms_ HB hb;(try clear hb)));go_ret;exact ⟨me_,mb_ HB⟩
   ·replace c10:=Bool.eq_false_iff.mpr c10;subst c10;exact u534_0
  ·replace c8:=Bool.eq_false_iff.mpr c8;subst c8;exact u534_0
 ·replace c6:=Bool.eq_false_iff.mpr c6;subst c6;exact u534_0
end Go.Proofs.YtahambloheoebaaGreatDoor.P
namespace Go.Proofs.YtahambloheoebaaGreatDoor.P
open Go.Proofs.YtahambloheoebaaGreatDoorX
open Go.RowKit Go.Proofs.YtahambloheoebaaGreatDoorW.PrintWords Go.Proofs.YtahambloheoebaaGreatDoorW.PrintLast Go.Proofs.YtahambloheoebaaGreatDoorW.PrintMore
attribute [local go_sem] max2_int min2_int max_two min_two max_three min_three max_four min_four
set_option linter.unusedVariables false
set_option linter.unusedSimpArgs false
def laws_eqRuleS.l0:Nat→List (S39)→List (S39)→Int→Option (Bool)
 | 0,_,_,_=>none
 | k+1,x0,x1,x5=>if x5<(x0.length:Int) then (if 0≤x5 then (if x5<(x1.length:Int) then ((laws_eqRule.f k ((rd_T39 x0 x5).f0) ((rd_T39 x0 x5).f1) ((rd_T39 x0 x5).f2) ((rd_T39 x0 x5).f3) ((rd_T39 x0 x5).f4) ((rd_T39 x1 x5).f0) ((rd_T39 x1 x5).f1) ((rd_T39 x1 x5).f2) ((rd_T39 x1 x5).f3) ((rd_T39 x1 x5).f4)).bind fun t425=>(if t425=true then (laws_eqRuleS.l0 k x0 x1 (wrap64 (x5+1))) else (some false))) else (none)) else (none)) else (some true)
def laws_eqRuleS.f (k:Nat) (l0:List (S39)) (l1:List (S39)):Option (Bool):=if (l0.length:Int)=(l1.length:Int) then (laws_eqRuleS.l0 k l0 l1 0) else (some false)
theorem laws_eqRuleS.mono_l:∀k,(∀y0 y1 y2,LeO (laws_eqRuleS.l0 k y0 y1 y2) (laws_eqRuleS.l0 (k+1) y0 y1 y2))
 | 0=>fun _ _ _ r h=>by simp [laws_eqRuleS.l0] at h
 | k+1=>by
  have ih0:=laws_eqRuleS.mono_l k
  ·intro y0 y1 y2;unfold laws_eqRuleS.l0
   repeat' with_reducible first|apply ih0|apply laws_eqRule.mono|apply LeO.refl|apply LeO.none|refine LeO.ite ?_ ?_|refine LeO.bind ?_ (fun _=>?_)
theorem laws_eqRuleS.mono:∀a0 a1 k,LeO (laws_eqRuleS.f k a0 a1) (laws_eqRuleS.f (k+1) a0 a1):=by
 intro a0 a1 k;have ih0:=laws_eqRuleS.mono_l k;unfold laws_eqRuleS.f
 repeat' with_reducible first|apply ih0|apply laws_eqRule.mono|apply LeO.refl|apply LeO.none|refine LeO.ite ?_ ?_|refine LeO.bind ?_ (fun _=>?_)
def laws_eqRuleS.T6:Bool×List (List Nat×List Nat):=(true,[([],[]),([],[]),([0,1],[0,1]),([2],[2]),([],[]),([],[]),([4,5],[4,5]),([6],[6]),([3,7],[3,7]),([8],[8])])
def laws_eqRuleS.B6:List Nat:=[0,0,3,7,0,0,48,112,255,511]
theorem laws_eqRuleS.tab6:rtab .any (opsOf Tryz.f17 6)=laws_eqRuleS.T6:=by kernel_rfl
theorem laws_eqRuleS.bits6:waitsOk laws_eqRuleS.T6.2 laws_eqRuleS.B6=true:=by kernel_rfl
abbrev b2c0_0:Array Bool:=#[f_,f_,f_,f_,f_,f_,f_,f_,f_,f_]
abbrev b2c0_1:Array Bool:=#[t_,f_,f_,f_,f_,f_,f_,f_,f_,f_]
abbrev b2c0_2:Array Bool:=#[t_,t_,f_,f_,f_,f_,f_,f_,f_,f_]
abbrev b2c0_3:Array Bool:=#[t_,t_,t_,f_,f_,f_,f_,f_,f_,f_]
abbrev b2c0_4:Array Bool:=#[t_,t_,t_,f_,t_,f_,f_,f_,f_,f_]
abbrev b2c0_5:Array Bool:=#[t_,t_,t_,f_,t_,t_,f_,f_,f_,f_]
abbrev b2c0_6:Array Bool:=#[t_,t_,t_,f_,t_,t_,t_,f_,f_,f_]
abbrev b2c0_7:Array Bool:=#[t_,t_,t_,t_,t_,t_,t_,f_,f_,f_]
abbrev b2c0_8:Array Bool:=#[t_,t_,t_,t_,t_,t_,t_,t_,f_,f_]
abbrev b2c0_9:Array Bool:=#[t_,t_,t_,t_,t_,t_,t_,t_,t_,f_]
abbrev b2c0_10:Array Bool:=#[t_,t_,t_,t_,t_,t_,t_,t_,t_,t_]
set_option maxHeartbeats 8000000 in
set_option maxRecDepth 100000 in
theorem laws_eqRuleS.calls (k:Nat) (A0:Option Addr) (c0:Nat) (l0:List (S39)) (A1:Option Addr) (c1:Nat) (l1:List (S39)) (r:Bool) (w:World) (hr0:Kd.C k39 w A0 l0.length l0) (hc0:l0.length≤c0) (hr1:Kd.C k39 w A1 l1.length l1) (hc1:l1.length≤c1) (h:laws_eqRuleS.f k l0 l1=some r) (hT_:r=true:=by first|rfl|assumption):
  Calls Tryz.prog 17 #[.slice A0 l0.length c0,.slice A1 l1.length c1] w fun e w'=>e=.returned (.bool r)∧Below w.heap.size w w':=by
 subst hT_;have hu39:=Tryz.underlying39;have HR0:=a_ hr0;have HC0:=a_ hc0;clear hr0 hc0;have HR1:=a_ hr1;have HC1:=a_ hc1;clear hr1 hc1;have HB:=a_ (Below.refl w.heap.size w);have H:(if (l0.length:Int)=(l1.length:Int) then (laws_eqRuleS.l0 k l0 l1 0) else (some false))=some true:=h
 clear h;by_cases c3:(l0.length:Int)=(l1.length:Int)
 ·rw [if_pos c3] at H;obtain ⟨c3b0,c3b1⟩:=bq_ c3;have c3b2:(l0.length==l1.length)=true:=by first|simpa using c3|(simp at c3 ⊢;omega)
  clear c3;have H':=a_ H;clear H;go_enter Tryz.func17,Tryz.ntmps17;go_wp2;go_loopg [5] k (fun kq v5 w'=>∃(x5_1:Int),v5=.int .i64 x5_1∧Aside0 (laws_eqRuleS.l0 kq l0 l1 x5_1=some true)∧Aside0 (kq≤k)∧Aside0 (Below w.heap.size w w'))
  case atStart=>exact ⟨(0),mq_,H',⟨Nat.le_refl _⟩,⟨mb_ HB⟩⟩
  clear H';(try clear c3b0);(try clear c3b1);(try clear c3b2);obtain ⟨x5_1,rfl,HA,HK1,HB⟩:=hrel;obtain _|k1:=gk
  ·exact absurd HA.out (by simp [laws_eqRuleS.l0])
  have H:=HA.out;clear HA;simp only [laws_eqRuleS.l0] at H;by_cases c4:x5_1<(l0.length:Int)
  ·rw [if_pos c4] at H;have c4b0:=ct_ c4;clear c4;by_cases c5:0≤x5_1
   case neg=>
    rw [if_neg c5] at H;cases H
   rw [if_pos c5] at H;have c5b0:=ct_ c5;clear c5;by_cases c6:x5_1<(l1.length:Int)
   case neg=>
    rw [if_neg c6] at H;cases H
   rw [if_pos c6] at H;have c6b0:=ct_ c6;clear c6;obtain ⟨t425,A7,H⟩:=ob_ H;by_cases c8:t425=true
   ·subst c8;rw [if_pos rfl] at H;have H':=a_ H;clear H;try go_wp2
    replace HB:=a_ (below_drew1 HB.out);have p423:0≤(x5_1:Int):=md_
    have q423:x5_1<(l0.length:Int):=md_
    obtain ⟨ad423,A423_2,c423_2,A423_3,c423_3,A423_4,c423_4,e423,hx423_0,hx423_1,hx423_2,hx423_3,hx423_4,hl423_2,hi423_2,hl423_3,hi423_3,hl423_4,hi423_4⟩:=at_T39 HR0.out x5_1 p423 q423;have hw423_4:=hx423_4;have hw423_3:=hx423_3;have hw423_2:=hx423_2;have hw423_1:=hx423_1;have hw423_0:=hx423_0;cases e423;replace hx423_0:=mx_ HB hx423_0;replace hx423_1:=mx_ HB hx423_1;replace hx423_2:=mx_ HB hx423_2;replace hx423_3:=mx_ HB hx423_3;replace hx423_4:=mx_ HB hx423_4;have HR423_2:=a_ hi423_2;have HC423_2:=a_ hl423_2;clear hi423_2 hl423_2;have HR423_3:=a_ hi423_3;have HC423_3:=a_ hl423_3;clear hi423_3 hl423_3;have HR423_4:=a_ hi423_4;have HC423_4:=a_ hl423_4;clear hi423_4 hl423_4;replace p423:=eq_true p423;replace q423:=eq_true q423;have p424:0≤(x5_1:Int):=md_
    have q424:x5_1<(l1.length:Int):=md_
    obtain ⟨ad424,A424_2,c424_2,A424_3,c424_3,A424_4,c424_4,e424,hx424_0,hx424_1,hx424_2,hx424_3,hx424_4,hl424_2,hi424_2,hl424_3,hi424_3,hl424_4,hi424_4⟩:=at_T39 HR1.out x5_1 p424 q424;have hw424_4:=hx424_4;have hw424_3:=hx424_3;have hw424_2:=hx424_2;have hw424_1:=hx424_1;have hw424_0:=hx424_0;cases e424;replace hx424_0:=mx_ HB hx424_0;replace hx424_1:=mx_ HB hx424_1;replace hx424_2:=mx_ HB hx424_2;replace hx424_3:=mx_ HB hx424_3;replace hx424_4:=mx_ HB hx424_4;have HR424_2:=a_ hi424_2;have HC424_2:=a_ hl424_2;clear hi424_2 hl424_2;have HR424_3:=a_ hi424_3;have HC424_3:=a_ hl424_3;clear hi424_3 hl424_3;have HR424_4:=a_ hi424_4;have HC424_4:=a_ hl424_4;clear hi424_4 hl424_4;replace p424:=eq_true p424;replace q424:=eq_true q424;refine start_ (n:=10) (S:=fun w'=>w'.cell? (ad423.add ((x5_1).toNat*5))=some (.string ((rd_T39 l0 x5_1).f0))∧w'.cell? ⟨(ad423.add ((x5_1).toNat*5)).block,(ad423.add ((x5_1).toNat*5)).off+1,none⟩=some (.int .i64 ((rd_T39 l0 x5_1).f1))∧w'.cell? ⟨(ad423.add ((x5_1).toNat*5)).block,(ad423.add ((x5_1).toNat*5)).off+2,none⟩=some (.slice A423_2 ((rd_T39 l0 x5_1).f2).length c423_2)∧w'.cell? ⟨(ad423.add ((x5_1).toNat*5)).block,(ad423.add ((x5_1).toNat*5)).off+3,none⟩=some (.slice A423_3 ((rd_T39 l0 x5_1).f3).length c423_3)∧w'.cell? ⟨(ad423.add ((x5_1).toNat*5)).block,(ad423.add ((x5_1).toNat*5)).off+4,none⟩=some (.slice A423_4 ((rd_T39 l0 x5_1).f4).length c423_4)∧w'.cell? (ad424.add ((x5_1).toNat*5))=some (.string ((rd_T39 l1 x5_1).f0))∧w'.cell? ⟨(ad424.add ((x5_1).toNat*5)).block,(ad424.add ((x5_1).toNat*5)).off+1,none⟩=some (.int .i64 ((rd_T39 l1 x5_1).f1))∧w'.cell? ⟨(ad424.add ((x5_1).toNat*5)).block,(ad424.add ((x5_1).toNat*5)).off+2,none⟩=some (.slice A424_2 ((rd_T39 l1 x5_1).f2).length c424_2)∧w'.cell? ⟨(ad424.add ((x5_1).toNat*5)).block,(ad424.add ((x5_1).toNat*5)).off+3,none⟩=some (.slice A424_3 ((rd_T39 l1 x5_1).f3).length c424_3)∧w'.cell? ⟨(ad424.add ((x5_1).toNat*5)).block,(ad424.add ((x5_1).toNat*5)).off+4,none⟩=some (.slice A424_4 ((rd_T39 l1 x5_1).f4).length c424_4)) (ds:=[]) b2c0_0 (by kernel_rfl) rfl rfl ⟨(mx_ HB hw423_0),(mx_ HB hw423_1),(mx_ HB hw423_2),(mx_ HB hw423_3),(mx_ HB hw423_4),(mx_ HB hw424_0),(mx_ HB hw424_1),(mx_ HB hw424_2),(mx_ HB hw424_3),(mx_ HB hw424_4)⟩ (fun hHeld=>?_);refine with_tabW laws_eqRuleS.tab6 laws_eqRuleS.bits6 (fun HT_ HW_=>?_);generalize wr.drew=w9 at HB HR423_2 HR423_3 HR423_4 HR424_2 HR424_3 HR424_4 hx423_0 hx423_1 hx423_2 hx423_3 hx423_4 hx424_0 hx424_1 hx424_2 hx424_3 hx424_4 hHeld ⊢;refine pu_ 0 17 b2c0_1 (any_of HT_.out (by kernel_rfl)) ?_;refine pu_ 1 18 b2c0_2 (any_of HT_.out (by kernel_rfl)) ?_
    refine pu_ 2 19 b2c0_3 (any_of HT_.out (by kernel_rfl)) ?_;refine pu_ 4 21 b2c0_4 (any_of HT_.out (by kernel_rfl)) ?_;refine pu_ 5 22 b2c0_5 (any_of HT_.out (by kernel_rfl)) ?_;refine pu_ 6 23 b2c0_6 (any_of HT_.out (by kernel_rfl)) ?_;refine tk_ 3 20 b2c0_7 (take_ofW HT_.out HW_.out (by kernel_rfl)) hHeld ?_;refine tk_ 7 24 b2c0_8 (take_ofW HT_.out HW_.out (by kernel_rfl)) hHeld ?_;refine one_ (i:=8) (N:=some 25) b2c0_9 rfl rfl (one_of HT_.out (by kernel_rfl)) (by decide) (fun K hK=>?_);refine goes_ Tryz.func47 (by kernel_rfl) rfl #[.agg #[.string ((rd_T39 l0 x5_1).f0),.int .i64 ((rd_T39 l0 x5_1).f1),.slice A423_2 ((rd_T39 l0 x5_1).f2).length c423_2,.slice A423_3 ((rd_T39 l0 x5_1).f3).length c423_3,.slice A423_4 ((rd_T39 l0 x5_1).f4).length c423_4],.agg #[.string ((rd_T39 l1 x5_1).f0),.int .i64 ((rd_T39 l1 x5_1).f1),.slice A424_2 ((rd_T39 l1 x5_1).f2).length c424_2,.slice A424_3 ((rd_T39 l1 x5_1).f3).length c424_3,.slice A424_4 ((rd_T39 l1 x5_1).f4).length c424_4]] (by rfl) rfl rfl mw_ ?_;with_reducible refine (laws_eqRule.calls k1 ((rd_T39 l0 x5_1).f0) ((rd_T39 l0 x5_1).f1) _ _ ((rd_T39 l0 x5_1).f2) _ _ ((rd_T39 l0 x5_1).f3) _ _ ((rd_T39 l0 x5_1).f4) ((rd_T39 l1 x5_1).f0) ((rd_T39 l1 x5_1).f1) _ _ ((rd_T39 l1 x5_1).f2) _ _ ((rd_T39 l1 x5_1).f3) _ _ ((rd_T39 l1 x5_1).f4) true _ ?side1 ?side2 ?side3 ?side4 ?side5 ?side6 ?side7 ?side8 ?side9 ?side10 ?side11 ?side12 A7.out).mono ?_
    (case side1=>exact mt_ HR423_2 HB)
    (case side2=>exact HC423_2.out)
    (case side3=>exact mt_ HR423_3 HB)
    (case side4=>exact HC423_3.out)
    (case side5=>exact mt_ HR423_4 HB)
    (case side6=>exact HC423_4.out)
    (case side7=>exact mt_ HR424_2 HB)
    (case side8=>exact HC424_2.out)
    (case side9=>exact mt_ HR424_3 HB)
    (case side10=>exact HC424_3.out)
    (case side11=>exact mt_ HR424_4 HB)
    (case side12=>exact HC424_4.out)
    rintro e w10 ⟨rfl,hb⟩;refine ⟨_,rfl,?_⟩;replace HB:=ms_ HB hb;(try clear hb);(try clear hb2);(try clear hk);(try clear hi);refine hK.out _ _ ⟨(mx_ HB hw423_0),(mx_ HB hw423_1),(mx_ HB hw423_2),(mx_ HB hw423_3),(mx_ HB hw423_4),(mx_ HB hw424_0),(mx_ HB hw424_1),(mx_ HB hw424_2),(mx_ HB hw424_3),(mx_ HB hw424_4)⟩ (fun hHeld=>?_);clear hK K;refine nm_ 25 ?_;refine pu_ 9 26 b2c0_10 (any_of HT_.out (by kernel_rfl)) ?_;refine done_ (done_of HT_.out (by kernel_rfl)) ?_;try go_wp2
    go_roundg k1
    case measure=>
     have:=HK1.out
     omega
    case rel=>exact ⟨(wrap64 (x5_1+1)),mq_,H',⟨by have:=HK1.out;omega⟩,⟨mb_ HB⟩⟩
   ·replace c8:=Bool.eq_false_iff.mpr c8;subst c8;rw [if_neg (show ¬(false=true) by decide)] at H;exact absurd (Option.some.inj H) (by decide)
  ·rw [if_neg c4] at H;have c4b0:=cf_ c4;clear c4;clear H;go_wp2;go_ret;exact ⟨me_,mb_ HB⟩
 ·rw [if_neg c3] at H;obtain ⟨c3b0,c3b1⟩:=bn_ c3;have c3b2:(l0.length==l1.length)=false:=by first|simpa using c3|(simp at c3 ⊢;omega)
  exact absurd (Option.some.inj H) (by decide)
def laws_markText.l0:Nat→Int→ByteArray→Option (ByteArray)
 | 0,_,_=>none
 | k+1,x0,x3=>if x0>0 then ((some (([(wrap64 (48+(Int.tmod x0 10))) % 256]:List Int):List Int)).bind fun y426=>(if (strOfNums y426).size+x3.size≤9223372036854775807 then (laws_markText.l0 k (wrap64 (Int.tdiv x0 10)) ((strOfNums y426)++x3)) else (none))) else (if 1+x3.size≤9223372036854775807 then (some ((⟨#[109]⟩:ByteArray)++x3)) else (none))
def laws_markText.f (k:Nat) (a0:Int):Option (ByteArray):=if a0≤0 then (some (⟨#[109,48]⟩:ByteArray)) else (laws_markText.l0 k a0 (⟨#[]⟩:ByteArray))
theorem laws_markText.mono_l:∀k,(∀y0 y1,LeO (laws_markText.l0 k y0 y1) (laws_markText.l0 (k+1) y0 y1))
 | 0=>fun _ _ r h=>by simp [laws_markText.l0] at h
 | k+1=>by
  have ih0:=laws_markText.mono_l k
  ·intro y0 y1;unfold laws_markText.l0
   repeat' with_reducible first|apply ih0|apply LeO.refl|apply LeO.none|refine LeO.ite ?_ ?_|refine LeO.bind ?_ (fun _=>?_)
theorem laws_markText.mono:∀a0 k,LeO (laws_markText.f k a0) (laws_markText.f (k+1) a0):=by
 intro a0 k;have ih0:=laws_markText.mono_l k;unfold laws_markText.f
 repeat' with_reducible first|apply ih0|apply LeO.refl|apply LeO.none|refine LeO.ite ?_ ?_|refine LeO.bind ?_ (fun _=>?_)
set_option maxHeartbeats 8000000 in
set_option maxRecDepth 100000 in
theorem laws_markText.calls (k:Nat) (a0:Int) (r:ByteArray) (w:World) (h:laws_markText.f k a0=some r):
  Calls Tryz.prog 48 #[.int .i64 a0] w fun e w'=>e=.returned (.string r)∧Below w.heap.size w w':=by
 have HB:=a_ (Below.refl w.heap.size w);have H:=h;unfold laws_markText.f at H
 clear h;by_cases c2:a0≤0
 ·rw [if_pos c2] at H;have c2b0:=ct_ c2;clear c2;obtain rfl:=oi_ H;go_enter Tryz.func48,Tryz.ntmps48;go_wp2;go_ret;exact ⟨me_,mb_ HB⟩
 ·rw [if_neg c2] at H;have c2b0:=cf_ c2;clear c2;have H':=a_ H;clear H;go_enter Tryz.func48,Tryz.ntmps48;go_wp2;go_loopg [0,3] k (fun kq v0 v3 w'=>∃(x0_1:Int) (x3_1:ByteArray),v0=.int .i64 x0_1∧v3=.string x3_1∧Aside0 (laws_markText.l0 kq x0_1 x3_1=some r)∧Aside0 (kq≤k)∧Aside0 (Below w.heap.size w w'))
  case atStart=>exact ⟨(a0),((⟨#[]⟩:ByteArray)),mq_,mq_,H',⟨Nat.le_refl _⟩,⟨mb_ HB⟩⟩
  clear H';(try clear c2b0);obtain ⟨x0_1,x3_1,rfl,rfl,HA,HK1,HB⟩:=hrel;obtain _|k1:=gk
  ·exact absurd HA.out (by simp [laws_markText.l0])
  have H:=HA.out;clear HA;simp only [laws_markText.l0] at H;by_cases c3:x0_1>0
  ·rw [if_pos c3] at H;have c3b0:=ct_ c3;clear c3;obtain ⟨y426,hy426⟩:∃y_:List Int,y_=(([(wrap64 (48+(Int.tmod x0_1 10))) % 256]:List Int)):=⟨_,rfl⟩;rw [←hy426] at H;(try rw [Option.bind_some] at H);have Ny426:=a_ hy426;clear hy426;by_cases c4:(strOfNums y426).size+x3_1.size≤9223372036854775807
   case neg=>
    rw [if_neg c4] at H;cases H
   rw [if_pos c4] at H;have c4b0:=eq_true c4;have c4b1:=ct_ c4;try have c4b2:(9223372036854775807<(strOfNums y426).size+x3_1.size)=False:=eq_false (Nat.not_lt.2 c4)
   have H':=a_ H;clear H;go_wp2_with (first|((with_reducible refine gate_dst (N:=12) rfl ?_);refine Kd.R_lit (Kd.int .u8) _ 5 ?hg (N:=12) ?hd (xs:=([(wrap64 (48+(Int.tmod x0_1 10))) % 256]:List Int)) (inner:=[.int .u8 ((wrap64 (48+(Int.tmod x0_1 10))) % 256)]) (ok:=fun _=>True) (okp:=fun _=>True) ?hr ?hp (fun _ hk=>hk) trivial (Below.refl _ _) (Nat.le_refl _) (by simp) ?_;(case hd=>rfl);(case hg=>rfl);(case hr=>first|(go_simp;done)|(go_simp;rfl));(case hp=>exact (Reps.one (show Kd.M (Kd.int .u8) _ _ _ ((wrap64 (48+(Int.tmod x0_1 10))) % 256) [.int .u8 ((wrap64 (48+(Int.tmod x0_1 10))) % 256)] from rfl) (Reps.none _ _)));intro v427 wx ho6 hb hg_ hnew_;clear hg_ hnew_;(first|rw [←Ny426.out] at ho6|(simp only [Int.reduceToNat] at ho6;rw [←Ny426.out] at ho6));have HO428:=a_ (Kd.R_lower ho6 (below_size (mb_ HB)));replace HB:=ms_ HB hb;clear hb ho6;have hcv7:=own_string (P:=Tryz.prog) Tryz.underlying22 Tryz.underlying5 Tryz.underlying9 (Kd.own_of_R HO428.out)));go_roundg k1
   case measure=>
    have:=HK1.out
    omega
   case rel=>exact ⟨(wrap64 (Int.tdiv x0_1 10)),((strOfNums y426)++x3_1),mq_,mq_,H',⟨by have:=HK1.out;omega⟩,⟨mb_ HB⟩⟩
  ·rw [if_neg c3] at H;have c3b0:=cf_ c3;clear c3;by_cases c8:1+x3_1.size≤9223372036854775807
   case neg=>
    rw [if_neg c8] at H;cases H
   rw [if_pos c8] at H;have c8b0:=eq_true c8;have c8b1:=ct_ c8;try have c8b2:(9223372036854775807<1+x3_1.size)=False:=eq_false (Nat.not_lt.2 c8)
   obtain rfl:=oi_ H;go_wp2;go_ret;exact ⟨me_,mb_ HB⟩
def laws_markTermS.l0:Nat→List (S86)→Int→Int→Option (Int×(List (S86)))
 | 0,_,_,_=>none
 | k+1,x0,x1,x5=>if x5<(x0.length:Int) then (if 0≤x5 then ((some (x0.set (x5:Int).toNat (⟨x1,(rd_T86 x0 x5).f1,(rd_T86 x0 x5).f2,(⟨(rd_T86 x0 x5).f3.f0,(rd_T86 x0 x5).f3.f1,(rd_T86 x0 x5).f3.f2⟩:S80)⟩:S86):List (S86))).bind fun y429=>((some (y429.set (x5:Int).toNat (⟨(rd_T86 y429 x5).f0,wrap64 (x1+1),(rd_T86 y429 x5).f2,(⟨(rd_T86 y429 x5).f3.f0,(rd_T86 y429 x5).f3.f1,(rd_T86 y429 x5).f3.f2⟩:S80)⟩:S86):List (S86))).bind fun y430=>((laws_markText.f k (wrap64 ((wrap64 (x1+1))+1))).bind fun t431=>((some (y430.set (x5:Int).toNat (⟨(rd_T86 y430 x5).f0,(rd_T86 y430 x5).f1,t431,(⟨(rd_T86 y430 x5).f3.f0,(rd_T86 y430 x5).f3.f1,(rd_T86 y430 x5).f3.f2⟩:S80)⟩:S86):List (S86))).bind fun y432=>((some (y432.set (x5:Int).toNat (⟨(rd_T86 y432 x5).f0,(rd_T86 y432 x5).f1,(rd_T86 y432 x5).f2,(⟨wrap64 ((wrap64 ((wrap64 (x1+1))+1))+1),(rd_T86 y432 x5).f3.f1,(rd_T86 y432 x5).f3.f2⟩:S80)⟩:S86):List (S86))).bind fun y433=>((some (y433.set (x5:Int).toNat (⟨(rd_T86 y433 x5).f0,(rd_T86 y433 x5).f1,(rd_T86 y433 x5).f2,(⟨(rd_T86 y433 x5).f3.f0,wrap64 ((wrap64 ((wrap64 ((wrap64 (x1+1))+1))+1))+1),(rd_T86 y433 x5).f3.f2⟩:S80)⟩:S86):List (S86))).bind fun y434=>((laws_markText.f k (wrap64 ((wrap64 ((wrap64 ((wrap64 ((wrap64 (x1+1))+1))+1))+1))+1))).bind fun t435=>(laws_markTermS.l0 k (y434.set (x5:Int).toNat (⟨(rd_T86 y434 x5).f0,(rd_T86 y434 x5).f1,(rd_T86 y434 x5).f2,(⟨(rd_T86 y434 x5).f3.f0,(rd_T86 y434 x5).f3.f1,t435⟩:S80)⟩:S86)) (wrap64 ((wrap64 ((wrap64 ((wrap64 ((wrap64 ((wrap64 (x1+1))+1))+1))+1))+1))+1)) (wrap64 (x5+1)))))))))) else (none)) else (some (x1,x0))
def laws_markTermS.f (k:Nat) (l0:List (S86)) (a1:Int):Option (Int×(List (S86))):=laws_markTermS.l0 k l0 a1 0
theorem laws_markTermS.mono_l:∀k,(∀y0 y1 y2,LeO (laws_markTermS.l0 k y0 y1 y2) (laws_markTermS.l0 (k+1) y0 y1 y2))
 | 0=>fun _ _ _ r h=>by simp [laws_markTermS.l0] at h
 | k+1=>by
  have ih0:=laws_markTermS.mono_l k
  ·intro y0 y1 y2;unfold laws_markTermS.l0
   repeat' with_reducible first|apply ih0|apply laws_markText.mono|apply LeO.refl|apply LeO.none|refine LeO.ite ?_ ?_|refine LeO.bind ?_ (fun _=>?_)
theorem laws_markTermS.mono:∀a0 a1 k,LeO (laws_markTermS.f k a0 a1) (laws_markTermS.f (k+1) a0 a1):=by
 intro a0 a1 k;have ih0:=laws_markTermS.mono_l k;unfold laws_markTermS.f
 repeat' with_reducible first|apply ih0|apply laws_markText.mono|apply LeO.refl|apply LeO.none|refine LeO.ite ?_ ?_|refine LeO.bind ?_ (fun _=>?_)
end Go.Proofs.YtahambloheoebaaGreatDoor.P
namespace Go.Proofs.YtahambloheoebaaGreatDoor.P
open Go.Proofs.YtahambloheoebaaGreatDoorX
open Go.RowKit Go.Proofs.YtahambloheoebaaGreatDoorW.PrintWords Go.Proofs.YtahambloheoebaaGreatDoorW.PrintLast Go.Proofs.YtahambloheoebaaGreatDoorW.PrintMore
attribute [local go_sem] max2_int min2_int max_two min_two max_three min_three max_four min_four
set_option linter.unusedVariables false
set_option linter.unusedSimpArgs false
def laws_markExprS.l0:Nat→List (S161)→Int→Int→Option (Int×(List (S161)))
 | 0,_,_,_=>none
 | k+1,x0,x1,x5=>if x5<(x0.length:Int) then (if 0≤x5 then ((some (x0.set (x5:Int).toNat (⟨x1,(rd_T161 x0 x5).f1,(rd_T161 x0 x5).f2,(⟨(rd_T161 x0 x5).f3.f0,(rd_T161 x0 x5).f3.f1,(rd_T161 x0 x5).f3.f2⟩:S80),(rd_T161 x0 x5).f4,(rd_T161 x0 x5).f5⟩:S161):List (S161))).bind fun y441=>((some (y441.set (x5:Int).toNat (⟨(rd_T161 y441 x5).f0,(wrap64 (x1+1)) % 256,(rd_T161 y441 x5).f2,(⟨(rd_T161 y441 x5).f3.f0,(rd_T161 y441 x5).f3.f1,(rd_T161 y441 x5).f3.f2⟩:S80),(rd_T161 y441 x5).f4,(rd_T161 y441 x5).f5⟩:S161):List (S161))).bind fun y442=>((laws_markText.f k (wrap64 ((wrap64 (x1+1))+1))).bind fun t443=>((some (y442.set (x5:Int).toNat (⟨(rd_T161 y442 x5).f0,(rd_T161 y442 x5).f1,t443,(⟨(rd_T161 y442 x5).f3.f0,(rd_T161 y442 x5).f3.f1,(rd_T161 y442 x5).f3.f2⟩:S80),(rd_T161 y442 x5).f4,(rd_T161 y442 x5).f5⟩:S161):List (S161))).bind fun y444=>((some (y444.set (x5:Int).toNat (⟨(rd_T161 y444 x5).f0,(rd_T161 y444 x5).f1,(rd_T161 y444 x5).f2,(⟨wrap64 ((wrap64 ((wrap64 (x1+1))+1))+1),(rd_T161 y444 x5).f3.f1,(rd_T161 y444 x5).f3.f2⟩:S80),(rd_T161 y444 x5).f4,(rd_T161 y444 x5).f5⟩:S161):List (S161))).bind fun y445=>((some (y445.set (x5:Int).toNat (⟨(rd_T161 y445 x5).f0,(rd_T161 y445 x5).f1,(rd_T161 y445 x5).f2,(⟨(rd_T161 y445 x5).f3.f0,wrap64 ((wrap64 ((wrap64 ((wrap64 (x1+1))+1))+1))+1),(rd_T161 y445 x5).f3.f2⟩:S80),(rd_T161 y445 x5).f4,(rd_T161 y445 x5).f5⟩:S161):List (S161))).bind fun y446=>((laws_markText.f k (wrap64 ((wrap64 ((wrap64 ((wrap64 ((wrap64 (x1+1))+1))+1))+1))+1))).bind fun t447=>((some (y446.set (x5:Int).toNat (⟨(rd_T161 y446 x5).f0,(rd_T161 y446 x5).f1,(rd_T161 y446 x5).f2,(⟨(rd_T161 y446 x5).f3.f0,(rd_T161 y446 x5).f3.f1,t447⟩:S80),(rd_T161 y446 x5).f4,(rd_T161 y446 x5).f5⟩:S161):List (S161))).bind fun y448=>((some (y448.set (x5:Int).toNat (⟨(rd_T161 y448 x5).f0,(rd_T161 y448 x5).f1,(rd_T161 y448 x5).f2,(⟨(rd_T161 y448 x5).f3.f0,(rd_T161 y448 x5).f3.f1,(rd_T161 y448 x5).f3.f2⟩:S80),wrap64 ((wrap64 ((wrap64 ((wrap64 ((wrap64 ((wrap64 (x1+1))+1))+1))+1))+1))+1),(rd_T161 y448 x5).f5⟩:S161):List (S161))).bind fun y449=>(laws_markExprS.l0 k (y449.set (x5:Int).toNat (⟨(rd_T161 y449 x5).f0,(rd_T161 y449 x5).f1,(rd_T161 y449 x5).f2,(⟨(rd_T161 y449 x5).f3.f0,(rd_T161 y449 x5).f3.f1,(rd_T161 y449 x5).f3.f2⟩:S80),(rd_T161 y449 x5).f4,wrap64 ((wrap64 ((wrap64 ((wrap64 ((wrap64 ((wrap64 ((wrap64 (x1+1))+1))+1))+1))+1))+1))+1)⟩:S161)) (wrap64 ((wrap64 ((wrap64 ((wrap64 ((wrap64 ((wrap64 ((wrap64 ((wrap64 (x1+1))+1))+1))+1))+1))+1))+1))+1)) (wrap64 (x5+1)))))))))))) else (none)) else (some (x1,x0))
def laws_markExprS.f (k:Nat) (l0:List (S161)) (a1:Int):Option (Int×(List (S161))):=laws_markExprS.l0 k l0 a1 0
theorem laws_markExprS.mono_l:∀k,(∀y0 y1 y2,LeO (laws_markExprS.l0 k y0 y1 y2) (laws_markExprS.l0 (k+1) y0 y1 y2))
 | 0=>fun _ _ _ r h=>by simp [laws_markExprS.l0] at h
 | k+1=>by
  have ih0:=laws_markExprS.mono_l k
  ·intro y0 y1 y2;unfold laws_markExprS.l0
   repeat' with_reducible first|apply ih0|apply laws_markText.mono|apply LeO.refl|apply LeO.none|refine LeO.ite ?_ ?_|refine LeO.bind ?_ (fun _=>?_)
theorem laws_markExprS.mono:∀a0 a1 k,LeO (laws_markExprS.f k a0 a1) (laws_markExprS.f (k+1) a0 a1):=by
 intro a0 a1 k;have ih0:=laws_markExprS.mono_l k;unfold laws_markExprS.f
 repeat' with_reducible first|apply ih0|apply laws_markText.mono|apply LeO.refl|apply LeO.none|refine LeO.ite ?_ ?_|refine LeO.bind ?_ (fun _=>?_)
def laws_markIntS.l0:Nat→List Int→Int→Int→Option (Int×List Int)
 | 0,_,_,_=>none
 | k+1,x0,x1,x5=>if x5<(x0.length:Int) then (if 0≤x5 then (laws_markIntS.l0 k (x0.set (x5:Int).toNat x1) (wrap64 (x1+1)) (wrap64 (x5+1))) else (none)) else (some (x1,x0))
def laws_markIntS.f (k:Nat) (l0:List Int) (a1:Int):Option (Int×List Int):=laws_markIntS.l0 k l0 a1 0
theorem laws_markIntS.mono_l:∀k,(∀y0 y1 y2,LeO (laws_markIntS.l0 k y0 y1 y2) (laws_markIntS.l0 (k+1) y0 y1 y2))
 | 0=>fun _ _ _ r h=>by simp [laws_markIntS.l0] at h
 | k+1=>by
  have ih0:=laws_markIntS.mono_l k
  ·intro y0 y1 y2;unfold laws_markIntS.l0
   repeat' with_reducible first|apply ih0|apply LeO.refl|apply LeO.none|refine LeO.ite ?_ ?_|refine LeO.bind ?_ (fun _=>?_)
theorem laws_markIntS.mono:∀a0 a1 k,LeO (laws_markIntS.f k a0 a1) (laws_markIntS.f (k+1) a0 a1):=by
 intro a0 a1 k;have ih0:=laws_markIntS.mono_l k;unfold laws_markIntS.f
 repeat' with_reducible first|apply ih0|apply LeO.refl|apply LeO.none|refine LeO.ite ?_ ?_|refine LeO.bind ?_ (fun _=>?_)
def laws_markByteS.l0:Nat→List Int→Int→Int→Option (Int×List Int)
 | 0,_,_,_=>none
 | k+1,x0,x1,x5=>if x5<(x0.length:Int) then (if 0≤x5 then (laws_markByteS.l0 k (x0.set (x5:Int).toNat ((x1) % 256)) (wrap64 (x1+1)) (wrap64 (x5+1))) else (none)) else (some (x1,x0))
def laws_markByteS.f (k:Nat) (l0:List Int) (a1:Int):Option (Int×List Int):=laws_markByteS.l0 k l0 a1 0
theorem laws_markByteS.mono_l:∀k,(∀y0 y1 y2,LeO (laws_markByteS.l0 k y0 y1 y2) (laws_markByteS.l0 (k+1) y0 y1 y2))
 | 0=>fun _ _ _ r h=>by simp [laws_markByteS.l0] at h
 | k+1=>by
  have ih0:=laws_markByteS.mono_l k
  ·intro y0 y1 y2;unfold laws_markByteS.l0
   repeat' with_reducible first|apply ih0|apply LeO.refl|apply LeO.none|refine LeO.ite ?_ ?_|refine LeO.bind ?_ (fun _=>?_)
theorem laws_markByteS.mono:∀a0 a1 k,LeO (laws_markByteS.f k a0 a1) (laws_markByteS.f (k+1) a0 a1):=by
 intro a0 a1 k;have ih0:=laws_markByteS.mono_l k;unfold laws_markByteS.f
 repeat' with_reducible first|apply ih0|apply LeO.refl|apply LeO.none|refine LeO.ite ?_ ?_|refine LeO.bind ?_ (fun _=>?_)
def laws_heldByteS.l0:Nat→List Int→Int→Int→Option (Int)
 | 0,_,_,_=>none
 | k+1,x0,x1,x5=>if x5<(x0.length:Int) then (if 0≤x5 then (if (rd x0 x5)=((x1) % 256) then (laws_heldByteS.l0 k x0 (wrap64 (x1+1)) (wrap64 (x5+1))) else (some (-1))) else (none)) else (some x1)
def laws_heldByteS.f (k:Nat) (l0:List Int) (a1:Int):Option (Int):=laws_heldByteS.l0 k l0 a1 0
theorem laws_heldByteS.mono_l:∀k,(∀y0 y1 y2,LeO (laws_heldByteS.l0 k y0 y1 y2) (laws_heldByteS.l0 (k+1) y0 y1 y2))
 | 0=>fun _ _ _ r h=>by simp [laws_heldByteS.l0] at h
 | k+1=>by
  have ih0:=laws_heldByteS.mono_l k
  ·intro y0 y1 y2;unfold laws_heldByteS.l0
   repeat' with_reducible first|apply ih0|apply LeO.refl|apply LeO.none|refine LeO.ite ?_ ?_|refine LeO.bind ?_ (fun _=>?_)
theorem laws_heldByteS.mono:∀a0 a1 k,LeO (laws_heldByteS.f k a0 a1) (laws_heldByteS.f (k+1) a0 a1):=by
 intro a0 a1 k;have ih0:=laws_heldByteS.mono_l k;unfold laws_heldByteS.f
 repeat' with_reducible first|apply ih0|apply LeO.refl|apply LeO.none|refine LeO.ite ?_ ?_|refine LeO.bind ?_ (fun _=>?_)
set_option maxHeartbeats 8000000 in
set_option maxRecDepth 100000 in
theorem laws_heldByteS.calls (k:Nat) (A0:Option Addr) (c0:Nat) (l0:List Int) (a1:Int) (r:Int) (w:World) (hr0:Kd.C (Kd.int .u8) w A0 l0.length l0) (hc0:l0.length≤c0) (h:laws_heldByteS.f k l0 a1=some r):
  Calls Tryz.prog 20 #[.slice A0 l0.length c0,.int .i64 a1] w fun e w'=>e=.returned (.int .i64 r)∧Drawn0 w w':=by
 have HR0:=a_ hr0;have HC0:=a_ hc0;clear hr0 hc0;have H:(laws_heldByteS.l0 k l0 a1 0)=some r:=h
 clear h;have H':=a_ H;clear H;go_enter Tryz.func20,Tryz.ntmps20;go_wp2;go_loopg [1,5] k (fun kq v1 v5 w'=>∃(x1_1:Int) (x5_1:Int),v1=.int .i64 x1_1∧v5=.int .i64 x5_1∧Aside0 (laws_heldByteS.l0 kq l0 x1_1 x5_1=some r)∧Aside0 (kq≤k)∧Drawn0 w w')
 case atStart=>exact ⟨(a1),(0),mq_,mq_,H',⟨Nat.le_refl _⟩,by repeat (first|exact Drawn0.refl _|apply Drawn0.step)⟩
 clear H';obtain ⟨x1_1,x5_1,rfl,rfl,HA,HK1,⟨m1,rfl⟩⟩:=hrel;obtain _|k1:=gk
 ·exact absurd HA.out (by simp [laws_heldByteS.l0])
 have H:=HA.out;clear HA;simp only [laws_heldByteS.l0] at H;by_cases c3:x5_1<(l0.length:Int)
 ·rw [if_pos c3] at H;have c3b0:=ct_ c3;clear c3;by_cases c4:0≤x5_1
  case neg=>
   rw [if_neg c4] at H;cases H
  rw [if_pos c4] at H;have c4b0:=ct_ c4;clear c4;by_cases c5:(rd l0 x5_1)=((x1_1) % 256)
  ·rw [if_pos c5] at H;obtain ⟨c5b0,c5b1⟩:=bq_ c5;clear c5;have H':=a_ H;clear H;have p459:0≤(x5_1:Int):=md_
   have q459:x5_1<(l0.length:Int):=md_
   obtain ⟨ad459,e459,hx459_0⟩:=Kd.at_int HR0.out x5_1 p459 q459;cases e459;replace p459:=eq_true p459;replace q459:=eq_true q459;go_wp2;go_roundg k1
   case measure=>
    have:=HK1.out
    omega
   case rel=>exact ⟨(wrap64 (x1_1+1)),(wrap64 (x5_1+1)),mq_,mq_,H',⟨by have:=HK1.out;omega⟩,by repeat (first|exact Drawn0.refl _|apply Drawn0.step)⟩
  ·rw [if_neg c5] at H;obtain ⟨c5b0,c5b1⟩:=bn_ c5;obtain rfl:=oi_ H;have p459:0≤(x5_1:Int):=md_
   have q459:x5_1<(l0.length:Int):=md_
   obtain ⟨ad459,e459,hx459_0⟩:=Kd.at_int HR0.out x5_1 p459 q459;cases e459;replace p459:=eq_true p459;replace q459:=eq_true q459;go_wp2;go_ret;exact ⟨by first|rfl|(simp;done)|(simp [*];done),by repeat (first|exact Drawn0.refl _|apply Drawn0.step)⟩
 ·rw [if_neg c3] at H;have c3b0:=cf_ c3;clear c3;obtain rfl:=oi_ H;go_wp2;go_ret;exact ⟨by first|rfl|(simp;done)|(simp [*];done),by repeat (first|exact Drawn0.refl _|apply Drawn0.step)⟩
end Go.Proofs.YtahambloheoebaaGreatDoor.P
namespace Go.Proofs.YtahambloheoebaaGreatDoor.Pure
open Go.RowKit Go.Proofs.YtahambloheoebaaGreatDoor.P Go.Proofs.YtahambloheoebaaGreatDoorW.PrintWords Go.Proofs.YtahambloheoebaaGreatDoorW.PrintLast Go.Proofs.YtahambloheoebaaGreatDoorX
set_option linter.unusedVariables false
set_option linter.unusedSimpArgs false
def markL (a:Int) (n:Nat):List Int:=(List.range n).map fun (i:Nat)=>(a+(i:Int)) % 256
theorem markL_length (a:Int) (n:Nat):(markL a n).length=n:=by simp [markL]
def mixL (a:Int) (xs:List Int) (i:Nat):List Int:=markL a i++xs.drop i
theorem mixL_length (a:Int) (xs:List Int) (i:Nat) (h:i≤xs.length):(mixL a xs i).length=xs.length:=by
 simp [mixL,markL_length];omega
theorem mixL_set (a:Int) (xs:List Int) (i:Nat) (h:i<xs.length):(mixL a xs i).set i ((a+(i:Int)) % 256)=mixL a xs (i+1):=by
 unfold mixL
 rw [List.set_append_right _ _ (by rw [markL_length];omega),markL_length,Nat.sub_self,List.drop_eq_getElem_cons h,List.set_cons_zero];simp [markL,List.range_succ]
theorem row_at {w:World} {b:Nat} {xs:List Int} (h:Row8 w b xs) (i:Nat) (hi:i<xs.length):∃v,w.cell? ⟨b,i,none⟩=some v:=⟨_,h.cell (List.getElem?_eq_getElem hi)⟩
set_option maxHeartbeats 8000000 in
set_option maxRecDepth 100000 in
theorem markB_some (w:World) (b c:Nat) (xs:List Int) (a:Int) (hR:Row8 w b xs) (h0:0≤a) (hn:a+xs.length≤4611686018427387904):
  Calls Tryz.prog 19 #[.slice (some ⟨b,0,none⟩) xs.length c,.int .i64 a] w fun e w'=>e=.returned (.int .i64 (a+xs.length))∧Row8 w' b (markL a xs.length)∧Kept w w' (fun k=>k=b)∧Below b w w':=by
 have HR:=a_ hR;clear hR;go_enter Tryz.func19,Tryz.ntmps19;go_wp2;go_loopg [1,5] xs.length (fun gg v1 v5 wr=>∃i:Nat,i≤xs.length∧xs.length-i≤gg∧v1=.int .i64 (a+(i:Int))∧v5=.int .i64 (i:Int)∧Aside0 (Row8 wr b (mixL a xs i))∧Aside0 (Kept w wr (fun k=>k=b))∧Aside0 (Below b w wr))
 case atStart=>exact ⟨0,Nat.zero_le _,Nat.le_refl _,by simp,rfl,⟨by simpa [mixL,markL] using HR.out⟩,⟨Kept.refl _ _⟩,⟨Below.refl _ _⟩⟩
 case round=>
  obtain ⟨i,hi,hgg,rfl,rfl,HR1,HK,HB⟩:=hrel;by_cases hlt:i<xs.length
  ·have hz:(i:Int)<(xs.length:Int):=by omega
   have hz0:(0:Int)≤(i:Int):=by omega
   have hl:i<(mixL a xs i).length:=by rw [mixL_length _ _ _ hi];exact hlt
   obtain ⟨u,hu⟩:=row_at HR1.out i hl;have hf:=HR1.out.frozen hl;have HS:=a_ (HR1.out.set hl ((a+(i:Int)) % 256));have hw1:wrap64 (a+(i:Int)+1)=a+((i+1:Nat):Int):=by unfold wrap64;omega
   have hw2:wrap64 ((i:Int)+1)=((i+1:Nat):Int):=by unfold wrap64;omega
   have HKs:Aside0 (Kept w (wr.setCell ⟨b,i,none⟩ (.int .u8 ((a+(i:Int)) % 256))) (fun k=>k=b)):=⟨Nat.le_trans HK.out.1 (by simp [World.setCell]),fun j hj hn=>by
    have:(wr.setCell ⟨b,i,none⟩ (.int .u8 ((a+(i:Int)) % 256))).heap[j]?=wr.heap[j]?:=Below.heap_setCell _ _ _ _ (fun e=>hn e)
    rw [this];exact HK.out.2 j hj hn⟩
   have HBs:=a_ (HB.out.setCell (p:=⟨b,i,none⟩) (Nat.le_refl _) (.int .u8 ((a+(i:Int)) % 256)));rw [mixL_set a xs i hlt] at HS;clear hl;go_wp2;go_roundg (xs.length-(i+1))
   case measure=>omega
   case rel=>exact ⟨i+1,by omega,by omega,by first|rw [hw1]|(congr 1;omega),by first|rw [hw2]|(congr 1),HS,HKs,HBs⟩
  ·have hil:i=xs.length:=by omega
   subst hil;go_wp2;go_ret;refine ⟨rfl,?_,HK.out,HB.out⟩;have:=HR1.out
   unfold mixL at this
   rw [List.drop_length,List.append_nil] at this;exact this
def BI (lo hi:Nat) (w:World) (v:Value) (xs:List Int):Prop:=
 (v=.slice none 0 0∧xs=[])∨∃b c,v=.slice (some ⟨b,0,none⟩) xs.length c∧xs.length≤c∧lo≤b∧b<hi∧Row8 w b xs
def In (a b k:Nat):Prop:=a≤k∧k<b
theorem in_lt {a b c f:Nat} (h:b≤c):∀k,In a b k→¬In c f k:=fun k h1 h2=>by have:=h1.2;have:=h2.1;omega
theorem in_gt {a b c f:Nat} (h:f≤a):∀k,In a b k→¬In c f k:=fun k h1 h2=>by have:=h1.1;have:=h2.2;omega
section
variable {α : Type} {d:Kd α} {e base n c:Nat} {W:World} {ok:Nat→Prop} {A:Option Addr} {v:Value} {xs:List α}
theorem R_in (h:d.R e W base ok v xs):d.R e W base (In base W.heap.size) v xs:=Kd.R_mono (Kd.R_bound h) (fun k hk=>⟨hk.2.1,hk.2.2.1⟩)
theorem R_read (h:d.R e W base ok (.slice A n c) xs):d.C W A xs.length xs:=(Kd.R_reads' h).2.2
theorem R_room (h:d.R e W base ok (.slice A n c) xs):xs.length≤c:=(Kd.R_reads' h).1▸(Kd.R_reads' h).2.1
end
theorem BI_in {w:World} {base:Nat} {v:Value} {xs:List Int} (h:BR w base v xs):BI base w.heap.size w v xs:=by
 rcases h with h|⟨b,c,h1,h2,h3,h4⟩
 ·exact .inl h
 ·exact .inr ⟨b,c,h1,h2,h3,h4.lt,h4⟩
theorem BI.step {lo hi:Nat} {w w':World} {v:Value} {xs:List Int} (h:BI lo hi w v xs) (hk:∀k,In lo hi k→k<w.heap.size→w'.heap[k]?=w.heap[k]?):BI lo hi w' v xs:=by
 rcases h with h|⟨b,c,h1,h2,h3,h4,h5⟩
 ·exact .inl h
 ·refine .inr ⟨b,c,h1,h2,h3,h4,?_⟩
  have hl:=h5.lt
  obtain ⟨row,fz,h6,h7⟩:=h5
  exact ⟨row,fz,by rw [hk b ⟨h3,h4⟩ hl];exact h6,h7⟩
theorem BI.lt' {lo hi:Nat} {w:World} {v:Value} {xs:List Int} (h:BI lo hi w v xs):BR w lo v xs:=by
 rcases h with h|⟨b,c,h1,h2,h3,h4,h5⟩
 ·exact .inl h
 ·exact .inr ⟨b,c,h1,h2,h3,h5⟩
theorem BI.C {lo hi:Nat} {w:World} {v:Value} {xs:List Int} (h:BI lo hi w v xs) (hl:xs.length≤9223372036854775807):∃A c,v=.slice A xs.length c∧xs.length≤c∧Kd.C (Kd.int .u8) w A xs.length xs:=h.lt'.C hl
theorem BI.below {lo hi:Nat} {w w':World} {v:Value} {xs:List Int} (h:BI lo hi w v xs) (hd:Below w.heap.size w w'):BI lo hi w' v xs:=h.step fun k _ hl=>hd.block k hl
theorem BI.kept {lo hi:Nat} {w w':World} {v:Value} {xs:List Int} {S:Nat→Prop} (h:BI lo hi w v xs) (hk:Kept w w' S) (hS:∀k,In lo hi k→¬S k):BI lo hi w' v xs:=h.step fun k hi hl=>hk.2 k hl (hS k hi)
set_option maxHeartbeats 8000000 in
set_option maxRecDepth 100000 in
theorem markB_none (w:World) (a:Int):
  Calls Tryz.prog 19 #[.slice none 0 0,.int .i64 a] w fun e w'=>e=.returned (.int .i64 a)∧w'=w:=by
 go_enter Tryz.func19,Tryz.ntmps19;go_wp2;go_loopg [1,5] 1 (fun gg v1 v5 wr=>v1=.int .i64 a∧v5=.int .i64 0∧wr=w)
 case atStart=>exact ⟨rfl,rfl,rfl⟩
 case round=>
  obtain ⟨rfl,rfl,rfl⟩:=hrel;go_wp2;go_ret;exact ⟨rfl,rfl⟩
theorem markB_calls (w:World) (lo hi:Nat) (v:Value) (xs:List Int) (a:Int) (h:BI lo hi w v xs) (hlo:lo≤w.heap.size) (h0:0≤a) (hn:a+xs.length≤4611686018427387904):
  Calls Tryz.prog 19 #[v,.int .i64 a] w fun e w'=>e=.returned (.int .i64 (a+xs.length))∧BI lo hi w' v (markL a xs.length)∧Kept w w' (In lo hi)∧Below lo w w':=by
 rcases h with ⟨rfl,rfl⟩|⟨b,c,rfl,h2,h3,h4,h5⟩
 ·refine (markB_none w a).mono ?_;rintro e w' ⟨rfl,rfl⟩;exact ⟨by simp,.inl ⟨rfl,rfl⟩,Kept.refl _ _,Below.refl _ _⟩
 ·refine (markB_some w b c xs a h5 h0 hn).mono ?_;rintro e w' ⟨rfl,k1,k2,k3⟩;exact ⟨rfl,.inr ⟨b,c,by rw [markL_length],by rw [markL_length];exact h2,h3,h4,k1⟩,k2.mono (fun k e=>by cases e;exact ⟨h3,h4⟩),k3.mono h3⟩
theorem BI_read {lo hi n c:Nat} {A:Option Addr} {w:World} {xs:List Int} (h:BI lo hi w (.slice A n c) xs) (hl:xs.length≤9223372036854775807):Kd.C (Kd.int .u8) w A xs.length xs:=by
 obtain ⟨A',c',e,_,h2⟩:=h.C hl;injection e with e1 e2 e3
 rw [e1];exact h2
theorem BI_room {lo hi n c:Nat} {A:Option Addr} {w:World} {xs:List Int} (h:BI lo hi w (.slice A n c) xs) (hl:xs.length≤9223372036854775807):xs.length≤c:=by
 obtain ⟨A',c',e,h1,h2⟩:=h.C hl;injection e with e1 e2 e3
 rw [e3];exact h1
end Go.Proofs.YtahambloheoebaaGreatDoor.Pure
namespace Go.Proofs.YtahambloheoebaaGreatDoor.Pure
open Go.RowKit Go.Proofs.YtahambloheoebaaGreatDoor.P Go.Proofs.YtahambloheoebaaGreatDoorW.PrintWords Go.Proofs.YtahambloheoebaaGreatDoorW.PrintLast Go.Proofs.YtahambloheoebaaGreatDoorX
set_option linter.unusedVariables false
set_option linter.unusedSimpArgs false
theorem strOfNums_one (c:Int):(strOfNums [c]).size=1:=rfl
theorem markText_loop:∀(n:Nat) (x:Int) (s:ByteArray),0≤x→x≤9223372036854775807→x<10 ^ n→s.size+n<1000→∃r,laws_markText.l0 (n+1) x s=some r
 | 0,x,s,h0,_,h1,hs=>by
  simp only [laws_markText.l0];rw [if_neg (by omega),if_pos (by omega)];exact ⟨_,rfl⟩
 | n+1,x,s,h0,h2,h1,hs=>by
  rw [Int.pow_succ] at h1;unfold laws_markText.l0
  by_cases c:x>0
  ·rw [if_pos c]
   have hd:wrap64 (Int.tdiv x 10)=x / 10:=by
    rw [Int.tdiv_eq_ediv_of_nonneg h0];unfold wrap64
    omega
   rw [hd];simp only [Option.bind_some];rw [if_pos (by rw [strOfNums_one];omega)];refine markText_loop n (x / 10) _ (by omega) (by omega) ?_ ?_
   ·exact Int.ediv_lt_of_lt_mul (by omega) h1
   ·rw [ByteArray.size_append,strOfNums_one];omega
  ·rw [if_neg c,if_pos (by omega)];exact ⟨_,rfl⟩
def mtxt (a:Int):ByteArray:=(laws_markText.f 20 a).getD ⟨#[]⟩
end Go.Proofs.YtahambloheoebaaGreatDoor.Pure
namespace Go.Proofs.YtahambloheoebaaGreatDoor.Pure
open Go.RowKit Go.Proofs.YtahambloheoebaaGreatDoor.P Go.Proofs.YtahambloheoebaaGreatDoorW.PrintWords Go.Proofs.YtahambloheoebaaGreatDoorW.PrintLast Go.Proofs.YtahambloheoebaaGreatDoorX
set_option linter.unusedVariables false
set_option linter.unusedSimpArgs false
theorem text20 (a:Int) (h0:0≤a) (h1:a≤9223372036854775807):laws_markText.f 20 a=some (mtxt a):=by
 have:∃r,laws_markText.f 20 a=some r:=by
  unfold laws_markText.f
  split
  ·exact ⟨_,rfl⟩
  ·exact markText_loop 19 a _ h0 h1 (by omega) (by decide)
 obtain ⟨r,hr⟩:=this;have e:mtxt a=r:=by unfold mtxt;rw [hr];rfl
 rw [e];exact hr
def NoSl (v:Value):Prop:=∀A n c,v≠.slice A n c
def Sc (S:Nat→Prop) (w w':World):Prop:=(∀p v,w.cell? p=some v→∃v',w'.cell? p=some v'∧(NoSl v∨v'=v))∧(∀p v,w.cell? p=some v→w'.frozen? p=w.frozen? p)∧Kept w w' S
def ScP (S:Nat→Prop) (w:World) (p:Addr):Prop:=S p.block∧∃v,w.cell? p=some v∧NoSl v
theorem Sc.refl (S:Nat→Prop) (w:World):Sc S w w:=⟨fun p v h=>⟨v,h,.inr rfl⟩,fun _ _ _=>rfl,Kept.refl _ _⟩
theorem Sc.below {S:Nat→Prop} {w w1 w2:World} (h:Sc S w w1) (hb:Below w1.heap.size w1 w2):Sc S w w2:=by
 refine ⟨fun p v hp=>?_,fun p v hp=>?_,Kept.below h.2.2 hb⟩
 ·obtain ⟨v',h1,h2⟩:=h.1 p v hp;exact ⟨v',(hb.cell (World.block_lt_of_cell? w1 p h1)).trans h1,h2⟩
 ·obtain ⟨v',h1,_⟩:=h.1 p v hp;exact (hb.frozen (World.block_lt_of_cell? w1 p h1)).trans (h.2.1 p v hp)
theorem Sc.set {S:Nat→Prop} {w w1:World} {p:Addr} (h:Sc S w w1) (hp:ScP S w p) (u:Value):Sc S w (w1.setCell p u):=by
 obtain ⟨hs,v0,hv0,hn⟩:=hp;refine ⟨fun q v hq=>?_,fun q v hq=>?_,Kept.setCell h.2.2 (.inl hs) u⟩
 ·obtain ⟨v',h1,h2⟩:=h.1 q v hq;by_cases e:p=q
  ·subst e;rw [hv0] at hq;have hq:=Option.some.inj hq;subst hq;exact ⟨u,World.cell?_setCell_same w1 p u h1,.inl hn⟩
  ·exact ⟨v',(World.cell?_setCell_other w1 p q u e).trans h1,h2⟩
 ·rw [World.frozen?_setCell];exact h.2.1 q v hq
theorem Sc.at_ {S:Nat→Prop} {w w1:World} {p:Addr} {v:Value} (h:Sc S w w1) (hp:w.cell? p=some v):∃u,w1.cell? p=some u:=by
 obtain ⟨u,h1,_⟩:=h.1 p v hp;exact ⟨u,h1⟩
theorem Sc.fz {S:Nat→Prop} {w w1:World} {p:Addr} {v:Value} (h:Sc S w w1) (hp:w.cell? p=some v) (hf:w.frozen? p=false):w1.frozen? p=false:=(h.2.1 p v hp).trans hf
theorem Sc.sl {S:Nat→Prop} {w w1:World} {p:Addr} {A:Option Addr} {n c:Nat} (h:Sc S w w1) (hp:w.cell? p=some (.slice A n c)):w1.cell? p=some (.slice A n c):=by
 obtain ⟨u,h1,h2⟩:=h.1 p _ hp;rcases h2 with h2|h2
 ·exact absurd rfl (h2 A n c)
 ·rw [h2] at h1;exact h1
section
variable {S:Nat→Prop} {w x y:World}
theorem msc_ (h:Aside0 (Sc S w x)) (f:Sc S w x→Sc S w y:=by intro h;repeat (first|exact h|refine Sc.set ?_ (Aside0.out (by assumption)) _)):Sc S w y:=f h.out
end
def cnS {α : Type} (c : α→Nat) (l:List α):Nat:=(l.map c).sum
theorem cnS_take {α : Type} (c : α→Nat) (z : α) (l:List α) (i:Nat) (h:i<l.length):cnS c (l.take (i+1))=cnS c (l.take i)+c (l.getD i z):=by
 unfold cnS
 rw [List.take_succ_eq_append_getElem h,List.map_append,List.sum_append];simp [List.getD_eq_getElem?_getD,h]
theorem cnS_le {α : Type} (c : α→Nat) (l:List α) (i:Nat):cnS c (l.take i)≤cnS c l:=by
 have:=List.take_append_drop i l
 have h:cnS c l=cnS c (l.take i)+cnS c (l.drop i):=by
  unfold cnS;rw [←List.sum_append,←List.map_append,this]
 omega
def c_int (x:Int):Nat:=1
set_option maxHeartbeats 4000000 in
set_option maxRecDepth 100000 in
theorem sc_markIntS (wl w0 w:World) (S:Nat→Prop) (ok:Nat→Prop) (v:Value) (l:List Int) (a:Int) (hR:Kd.R (Kd.int .i64) 3 w0 wl.heap.size ok v l) (hok:∀k,ok k→S k) (hS:Sc S w0 w) (hB:Below wl.heap.size wl w) (ha0:0≤a) (ha:a+(cnS c_int l:Int)≤1099511627776) (hl:l.length≤9223372036854775807):
  Calls Tryz.prog 95 #[v,.int .i64 a] w fun e w'=>e=.returned (.int .i64 (a+(cnS c_int l:Int)))∧Sc S w0 w'∧Below wl.heap.size wl w':=by
 obtain ⟨A,c,ev⟩:=Kd.R_slice hR;subst ev;have HR:=a_ hR;have HOK:=a_ hok;have SC:=a_ hS;have HB:=a_ hB;have HA:=a_ ha;have HZ:Aside0 (a+(cnS c_int (l.take 0):Int)=a):=⟨by simp [cnS]⟩
 have HL:=a_ hl;clear hR hok hS hB ha hl;go_enter Tryz.func95,Tryz.ntmps95;go_wp2;go_loopg [1,5] l.length (fun gg v1 v5 wr=>∃(i:Nat) (b:Int),i≤l.length∧l.length-i≤gg∧0≤b∧v1=.int .i64 b∧v5=.int .i64 (i:Int)∧Aside0 (a+(cnS c_int (l.take i):Int)=b)∧Aside0 (Sc S w0 wr)∧Aside0 (Below wl.heap.size wl wr))
 case atStart=>exact ⟨0,a,Nat.zero_le _,Nat.sub_le _ _,ha0,rfl,rfl,HZ,SC,HB⟩
 clear HZ SC HB ha0;obtain ⟨i,b,hi,hgg,hb0,rfl,rfl,HC,SC,HB⟩:=hrel;by_cases hlt:i<l.length
 ·have hz:(i:Int)<(l.length:Int):=by omega
  have hz0:(0:Int)≤(i:Int):=by omega
  have hz1:(i:Int)≤9223372036854775806:=by have:=HL.out;omega
  have hcn:=cnS_take c_int 0 l i hlt;have hcl:=cnS_le c_int l (i+1);have hb1:b+(c_int (l.getD i 0):Int)≤1099511627776:=by have:=HA.out;have:=HC.out;omega
  have HCN:Aside0 (a+(cnS c_int (l.take (i+1)):Int)=b+(c_int (l.getD i 0):Int)):=⟨by have:=HC.out;omega⟩
  obtain ⟨g,cap,ev,hgb,_,_⟩:=Kd.R_form HR.out (by omega);injection ev with eA _ ec
  subst eA;subst ec;obtain ⟨cc,_,hM,hcc,hff⟩:=Kd.R_elem HR.out 0 (i:Int) hz0 hz;rw [Int.toNat_natCast] at hM hcc hff;have HG:=a_ hgb;have HSG:Aside0 (S g):=⟨HOK.out g (HR.out.1 g (by simp [Value.ownBlock]))⟩
  have hM:cc=[.int .i64 (l.getD i 0)]:=hM
  subst hM;generalize l.getD i 0=x at *;have K0:Aside0 (w0.cell? ⟨g,i,none⟩=some (.int .i64 x)):=⟨by have:=hcc 0 _ rfl;simpa [show (Kd.int .i64).sz=1 from rfl] using this⟩
  have Q0:Aside0 (w0.frozen? ⟨g,i,none⟩=false):=⟨by have:=hff 0;simpa [show (Kd.int .i64).sz=1 from rfl] using this⟩
  have P0:Aside0 (ScP S w0 ⟨g,i,none⟩):=⟨⟨HSG.out,_,K0.out,fun _ _ _ h=>by cases h⟩⟩
  have hbb:b≤1099511627776:=by omega
  have HBX:=a_ hb1;clear hcc hff hcn hcl hlt hgb hb1;obtain ⟨u0,h0⟩:=Sc.at_ SC.out K0.out;have f0:=Sc.fz SC.out K0.out Q0.out;go_wp2;go_roundg (l.length-(i+1))
  case measure=>omega
  case rel=>exact ⟨i+1,_,by omega,Nat.le_refl _,by omega,rfl,by go_num,⟨by rw [HCN.out];unfold c_int;omega⟩,⟨msc_ SC⟩,⟨mb_ HB⟩⟩
 ·have hil:i=l.length:=by omega
  subst hil;have hnl:¬((l.length:Nat):Int)<((l.length:Nat):Int):=by omega
  have hc:=HC.out;rw [List.take_length] at hc;have HC2:=a_ hc;clear hc HC hlt;go_wp2;go_ret;exact ⟨congrArg (fun z=>Ending.returned (.int .i64 z)) HC2.out.symm,SC.out,HB.out⟩
def c_Term (x:S86):Nat:=6
set_option maxHeartbeats 4000000 in
set_option maxRecDepth 100000 in
theorem sc_markTermS (wl w0 w:World) (S:Nat→Prop) (ok:Nat→Prop) (v:Value) (l:List S86) (a:Int) (hR:Kd.R k86 86 w0 wl.heap.size ok v l) (hok:∀k,ok k→S k) (hS:Sc S w0 w) (hB:Below wl.heap.size wl w) (ha0:0≤a) (ha:a+(cnS c_Term l:Int)≤1099511627776) (hl:l.length≤9223372036854775807):
  Calls Tryz.prog 94 #[v,.int .i64 a] w fun e w'=>e=.returned (.int .i64 (a+(cnS c_Term l:Int)))∧Sc S w0 w'∧Below wl.heap.size wl w':=by
 obtain ⟨A,c,ev⟩:=Kd.R_slice hR;subst ev;have HR:=a_ hR;have HOK:=a_ hok;have SC:=a_ hS;have HB:=a_ hB;have HA:=a_ ha;have HZ:Aside0 (a+(cnS c_Term (l.take 0):Int)=a):=⟨by simp [cnS]⟩
 have HL:=a_ hl;have hu:=Tryz.underlying86;have hu1:=Tryz.underlying80;clear hR hok hS hB ha hl;go_enter Tryz.func94,Tryz.ntmps94;go_wp2;go_loopg [1,5] l.length (fun gg v1 v5 wr=>∃(i:Nat) (b:Int),i≤l.length∧l.length-i≤gg∧0≤b∧v1=.int .i64 b∧v5=.int .i64 (i:Int)∧Aside0 (a+(cnS c_Term (l.take i):Int)=b)∧Aside0 (Sc S w0 wr)∧Aside0 (Below wl.heap.size wl wr))
 case atStart=>exact ⟨0,a,Nat.zero_le _,Nat.sub_le _ _,ha0,rfl,rfl,HZ,SC,HB⟩
 clear HZ SC HB ha0;obtain ⟨i,b,hi,hgg,hb0,rfl,rfl,HC,SC,HB⟩:=hrel;by_cases hlt:i<l.length
 ·have hz:(i:Int)<(l.length:Int):=by omega
  have hz0:(0:Int)≤(i:Int):=by omega
  have hz1:(i:Int)≤9223372036854775806:=by have:=HL.out;omega
  have hcn:=cnS_take c_Term z86 l i hlt;have hcl:=cnS_le c_Term l (i+1);have hb1:b+(c_Term (l.getD i z86):Int)≤1099511627776:=by have:=HA.out;have:=HC.out;omega
  have HCN:Aside0 (a+(cnS c_Term (l.take (i+1)):Int)=b+(c_Term (l.getD i z86):Int)):=⟨by have:=HC.out;omega⟩
  obtain ⟨g,cap,ev,hgb,_,_⟩:=Kd.R_form HR.out (by omega);injection ev with eA _ ec
  subst eA;subst ec;obtain ⟨cc,_,hM,hcc,hff⟩:=Kd.R_elem HR.out z86 (i:Int) hz0 hz;rw [Int.toNat_natCast] at hM hcc hff;have HG:=a_ hgb;have HSG:Aside0 (S g):=⟨HOK.out g (HR.out.1 g (by simp [Value.ownBlock]))⟩
  obtain rfl:=k86_openM hM;generalize l.getD i z86=x at *;have K0:Aside0 (w0.cell? ⟨g,i*6,none⟩=some (.int .i64 x.f0)):=⟨by have:=hcc 0 _ rfl;simpa [show k86.sz=6 from rfl] using this⟩
  have Q0:Aside0 (w0.frozen? ⟨g,i*6,none⟩=false):=⟨by have:=hff 0;simpa [show k86.sz=6 from rfl] using this⟩
  have P0:Aside0 (ScP S w0 ⟨g,i*6,none⟩):=⟨⟨HSG.out,_,K0.out,fun _ _ _ h=>by cases h⟩⟩
  have K1:Aside0 (w0.cell? ⟨g,i*6+1,none⟩=some (.int .i64 x.f1)):=⟨by have:=hcc 1 _ rfl;simpa [show k86.sz=6 from rfl] using this⟩
  have Q1:Aside0 (w0.frozen? ⟨g,i*6+1,none⟩=false):=⟨by have:=hff 1;simpa [show k86.sz=6 from rfl] using this⟩
  have P1:Aside0 (ScP S w0 ⟨g,i*6+1,none⟩):=⟨⟨HSG.out,_,K1.out,fun _ _ _ h=>by cases h⟩⟩
  have K2:Aside0 (w0.cell? ⟨g,i*6+2,none⟩=some (.string x.f2)):=⟨by have:=hcc 2 _ rfl;simpa [show k86.sz=6 from rfl] using this⟩
  have Q2:Aside0 (w0.frozen? ⟨g,i*6+2,none⟩=false):=⟨by have:=hff 2;simpa [show k86.sz=6 from rfl] using this⟩
  have P2:Aside0 (ScP S w0 ⟨g,i*6+2,none⟩):=⟨⟨HSG.out,_,K2.out,fun _ _ _ h=>by cases h⟩⟩
  have K3:Aside0 (w0.cell? ⟨g,i*6+3,none⟩=some (.int .i64 x.f3.f0)):=⟨by have:=hcc 3 _ rfl;simpa [show k86.sz=6 from rfl] using this⟩
  have Q3:Aside0 (w0.frozen? ⟨g,i*6+3,none⟩=false):=⟨by have:=hff 3;simpa [show k86.sz=6 from rfl] using this⟩
  have P3:Aside0 (ScP S w0 ⟨g,i*6+3,none⟩):=⟨⟨HSG.out,_,K3.out,fun _ _ _ h=>by cases h⟩⟩
  have K4:Aside0 (w0.cell? ⟨g,i*6+4,none⟩=some (.int .i64 x.f3.f1)):=⟨by have:=hcc 4 _ rfl;simpa [show k86.sz=6 from rfl] using this⟩
  have Q4:Aside0 (w0.frozen? ⟨g,i*6+4,none⟩=false):=⟨by have:=hff 4;simpa [show k86.sz=6 from rfl] using this⟩
  have P4:Aside0 (ScP S w0 ⟨g,i*6+4,none⟩):=⟨⟨HSG.out,_,K4.out,fun _ _ _ h=>by cases h⟩⟩
  have K5:Aside0 (w0.cell? ⟨g,i*6+5,none⟩=some (.string x.f3.f2)):=⟨by have:=hcc 5 _ rfl;simpa [show k86.sz=6 from rfl] using this⟩
  have Q5:Aside0 (w0.frozen? ⟨g,i*6+5,none⟩=false):=⟨by have:=hff 5;simpa [show k86.sz=6 from rfl] using this⟩
  have P5:Aside0 (ScP S w0 ⟨g,i*6+5,none⟩):=⟨⟨HSG.out,_,K5.out,fun _ _ _ h=>by cases h⟩⟩
  have hbb:b≤1099511627776:=by omega
  have HBX:=a_ hb1;clear hcc hff hM hcn hcl hlt hgb hb1;obtain ⟨u0,h0⟩:=Sc.at_ SC.out K0.out;have f0:=Sc.fz SC.out K0.out Q0.out;obtain ⟨u1,h1⟩:=Sc.at_ SC.out K1.out;have f1:=Sc.fz SC.out K1.out Q1.out;obtain ⟨u2,h2⟩:=Sc.at_ SC.out K2.out;have f2:=Sc.fz SC.out K2.out Q2.out;obtain ⟨u3,h3⟩:=Sc.at_ SC.out K3.out;have f3:=Sc.fz SC.out K3.out Q3.out;obtain ⟨u4,h4⟩:=Sc.at_ SC.out K4.out;have f4:=Sc.fz SC.out K4.out Q4.out;obtain ⟨u5,h5⟩:=Sc.at_ SC.out K5.out;have f5:=Sc.fz SC.out K5.out Q5.out;go_wp2_with (first|(go_at_call 48;refine (laws_markText.calls 20 _ _ _ (text20 _ (by omega) (by omega))).mono ?_;rintro e wx ⟨rfl,hd⟩;replace SC:=a_ (Sc.below (msc_ SC) hd);replace HB:=ms_ HB hd;clear h0 f0 h1 f1 h2 f2 h3 f3 h4 f4 h5 f5 hd;obtain ⟨u0,h0⟩:=Sc.at_ SC.out K0.out;have f0:=Sc.fz SC.out K0.out Q0.out;obtain ⟨u1,h1⟩:=Sc.at_ SC.out K1.out;have f1:=Sc.fz SC.out K1.out Q1.out;obtain ⟨u2,h2⟩:=Sc.at_ SC.out K2.out;have f2:=Sc.fz SC.out K2.out Q2.out;obtain ⟨u3,h3⟩:=Sc.at_ SC.out K3.out;have f3:=Sc.fz SC.out K3.out Q3.out;obtain ⟨u4,h4⟩:=Sc.at_ SC.out K4.out;have f4:=Sc.fz SC.out K4.out Q4.out;obtain ⟨u5,h5⟩:=Sc.at_ SC.out K5.out;have f5:=Sc.fz SC.out K5.out Q5.out));go_roundg (l.length-(i+1))
  case measure=>omega
  case rel=>exact ⟨i+1,_,by omega,Nat.le_refl _,by omega,rfl,by go_num,⟨by rw [HCN.out];unfold c_Term;omega⟩,⟨msc_ SC⟩,⟨mb_ HB⟩⟩
 ·have hil:i=l.length:=by omega
  subst hil;have hnl:¬((l.length:Nat):Int)<((l.length:Nat):Int):=by omega
  have hc:=HC.out;rw [List.take_length] at hc;have HC2:=a_ hc;clear hc HC hlt;go_wp2;go_ret;exact ⟨congrArg (fun z=>Ending.returned (.int .i64 z)) HC2.out.symm,SC.out,HB.out⟩
def c_Pattern (x:S42):Nat:=2+cnS c_Term x.f2
set_option maxHeartbeats 4000000 in
set_option maxRecDepth 100000 in
theorem sc_markPatternS (wl w0 w:World) (S:Nat→Prop) (ok:Nat→Prop) (v:Value) (l:List S42) (a:Int) (hR:Kd.R k42 42 w0 wl.heap.size ok v l) (hok:∀k,ok k→S k) (hS:Sc S w0 w) (hB:Below wl.heap.size wl w) (ha0:0≤a) (ha:a+(cnS c_Pattern l:Int)≤1099511627776) (hl:l.length≤9223372036854775807):
  Calls Tryz.prog 49 #[v,.int .i64 a] w fun e w'=>e=.returned (.int .i64 (a+(cnS c_Pattern l:Int)))∧Sc S w0 w'∧Below wl.heap.size wl w':=by
 obtain ⟨A,c,ev⟩:=Kd.R_slice hR;subst ev;have HR:=a_ hR;have HOK:=a_ hok;have SC:=a_ hS;have HB:=a_ hB;have HA:=a_ ha;have HZ:Aside0 (a+(cnS c_Pattern (l.take 0):Int)=a):=⟨by simp [cnS]⟩
 have HL:=a_ hl;have hu:=Tryz.underlying42;clear hR hok hS hB ha hl;go_enter Tryz.func49,Tryz.ntmps49;go_wp2;go_loopg [1,5] l.length (fun gg v1 v5 wr=>∃(i:Nat) (b:Int),i≤l.length∧l.length-i≤gg∧0≤b∧v1=.int .i64 b∧v5=.int .i64 (i:Int)∧Aside0 (a+(cnS c_Pattern (l.take i):Int)=b)∧Aside0 (Sc S w0 wr)∧Aside0 (Below wl.heap.size wl wr))
 case atStart=>exact ⟨0,a,Nat.zero_le _,Nat.sub_le _ _,ha0,rfl,rfl,HZ,SC,HB⟩
 clear HZ SC HB ha0;obtain ⟨i,b,hi,hgg,hb0,rfl,rfl,HC,SC,HB⟩:=hrel;by_cases hlt:i<l.length
 ·have hz:(i:Int)<(l.length:Int):=by omega
  have hz0:(0:Int)≤(i:Int):=by omega
  have hz1:(i:Int)≤9223372036854775806:=by have:=HL.out;omega
  have hcn:=cnS_take c_Pattern z42 l i hlt;have hcl:=cnS_le c_Pattern l (i+1);have hb1:b+(c_Pattern (l.getD i z42):Int)≤1099511627776:=by have:=HA.out;have:=HC.out;omega
  have HCN:Aside0 (a+(cnS c_Pattern (l.take (i+1)):Int)=b+(c_Pattern (l.getD i z42):Int)):=⟨by have:=HC.out;omega⟩
  obtain ⟨g,cap,ev,hgb,_,_⟩:=Kd.R_form HR.out (by omega);injection ev with eA _ ec
  subst eA;subst ec;obtain ⟨cc,_,hM,hcc,hff⟩:=Kd.R_elem HR.out z42 (i:Int) hz0 hz;rw [Int.toNat_natCast] at hM hcc hff;have HG:=a_ hgb;have HSG:Aside0 (S g):=⟨HOK.out g (HR.out.1 g (by simp [Value.ownBlock]))⟩
  obtain ⟨vs2,rfl,hI2⟩:=k42_openM hM;obtain ⟨A2,c2,es2⟩:=Kd.R_slice hI2;subst es2;have HI2:=a_ hI2;have HLI2:=a_ (Kd.R_reads' hI2).2.2.2.1;generalize l.getD i z42=x at *;have K0:Aside0 (w0.cell? ⟨g,i*3,none⟩=some (.bool x.f0)):=⟨by have:=hcc 0 _ rfl;simpa [show k42.sz=3 from rfl] using this⟩
  have Q0:Aside0 (w0.frozen? ⟨g,i*3,none⟩=false):=⟨by have:=hff 0;simpa [show k42.sz=3 from rfl] using this⟩
  have P0:Aside0 (ScP S w0 ⟨g,i*3,none⟩):=⟨⟨HSG.out,_,K0.out,fun _ _ _ h=>by cases h⟩⟩
  have K1:Aside0 (w0.cell? ⟨g,i*3+1,none⟩=some (.string x.f1)):=⟨by have:=hcc 1 _ rfl;simpa [show k42.sz=3 from rfl] using this⟩
  have Q1:Aside0 (w0.frozen? ⟨g,i*3+1,none⟩=false):=⟨by have:=hff 1;simpa [show k42.sz=3 from rfl] using this⟩
  have P1:Aside0 (ScP S w0 ⟨g,i*3+1,none⟩):=⟨⟨HSG.out,_,K1.out,fun _ _ _ h=>by cases h⟩⟩
  have K2:Aside0 (w0.cell? ⟨g,i*3+2,none⟩=some (.slice A2 x.f2.length c2)):=⟨by have:=hcc 2 _ rfl;simpa [show k42.sz=3 from rfl] using this⟩
  have hbb:b≤1099511627776:=by omega
  have HBX:=a_ hb1;clear hcc hff hM hI2 hcn hcl hlt hgb hb1;obtain ⟨u0,h0⟩:=Sc.at_ SC.out K0.out;have f0:=Sc.fz SC.out K0.out Q0.out;obtain ⟨u1,h1⟩:=Sc.at_ SC.out K1.out;have f1:=Sc.fz SC.out K1.out Q1.out;have h2:=Sc.sl SC.out K2.out;go_wp2_with (first|(go_at_call 48;refine (laws_markText.calls 20 _ _ _ (text20 _ (by omega) (by omega))).mono ?_;rintro e wx ⟨rfl,hd⟩;replace SC:=a_ (Sc.below (msc_ SC) hd);replace HB:=ms_ HB hd;clear h0 f0 h1 f1 h2 hd;obtain ⟨u0,h0⟩:=Sc.at_ SC.out K0.out;have f0:=Sc.fz SC.out K0.out Q0.out;obtain ⟨u1,h1⟩:=Sc.at_ SC.out K1.out;have f1:=Sc.fz SC.out K1.out Q1.out;have h2:=Sc.sl SC.out K2.out)|(go_at_call 94;refine (sc_markTermS wl w0 _ S _ _ x.f2 _ HI2.out (fun k_ hk_=>HOK.out k_ hk_.1) (msc_ SC) (mb_ HB) (by omega) (by have:=HBX.out;unfold c_Pattern at this;omega) (by have:=HLI2.out;omega)).mono ?_;rintro e wx ⟨rfl,hs_,hb_⟩;replace SC:=a_ hs_;replace HB:=a_ hb_;clear h0 f0 h1 f1 h2 hs_ hb_;obtain ⟨u0,h0⟩:=Sc.at_ SC.out K0.out;have f0:=Sc.fz SC.out K0.out Q0.out;obtain ⟨u1,h1⟩:=Sc.at_ SC.out K1.out;have f1:=Sc.fz SC.out K1.out Q1.out;have h2:=Sc.sl SC.out K2.out));go_roundg (l.length-(i+1))
  case measure=>omega
  case rel=>exact ⟨i+1,_,by omega,Nat.le_refl _,by omega,rfl,by go_num,⟨by rw [HCN.out];unfold c_Pattern;omega⟩,⟨msc_ SC⟩,⟨mb_ HB⟩⟩
 ·have hil:i=l.length:=by omega
  subst hil;have hnl:¬((l.length:Nat):Int)<((l.length:Nat):Int):=by omega
  have hc:=HC.out;rw [List.take_length] at hc;have HC2:=a_ hc;clear hc HC hlt;go_wp2;go_ret;exact ⟨congrArg (fun z=>Ending.returned (.int .i64 z)) HC2.out.symm,SC.out,HB.out⟩
def c_Expr (x:S161):Nat:=8
set_option maxHeartbeats 4000000 in
set_option maxRecDepth 100000 in
theorem sc_markExprS (wl w0 w:World) (S:Nat→Prop) (ok:Nat→Prop) (v:Value) (l:List S161) (a:Int) (hR:Kd.R k161 161 w0 wl.heap.size ok v l) (hok:∀k,ok k→S k) (hS:Sc S w0 w) (hB:Below wl.heap.size wl w) (ha0:0≤a) (ha:a+(cnS c_Expr l:Int)≤1099511627776) (hl:l.length≤9223372036854775807):
  Calls Tryz.prog 50 #[v,.int .i64 a] w fun e w'=>e=.returned (.int .i64 (a+(cnS c_Expr l:Int)))∧Sc S w0 w'∧Below wl.heap.size wl w':=by
 obtain ⟨A,c,ev⟩:=Kd.R_slice hR;subst ev;have HR:=a_ hR;have HOK:=a_ hok;have SC:=a_ hS;have HB:=a_ hB;have HA:=a_ ha;have HZ:Aside0 (a+(cnS c_Expr (l.take 0):Int)=a):=⟨by simp [cnS]⟩
 have HL:=a_ hl;have hu:=Tryz.underlying161;have hu1:=Tryz.underlying80;clear hR hok hS hB ha hl;go_enter Tryz.func50,Tryz.ntmps50;go_wp2;go_loopg [1,5] l.length (fun gg v1 v5 wr=>∃(i:Nat) (b:Int),i≤l.length∧l.length-i≤gg∧0≤b∧v1=.int .i64 b∧v5=.int .i64 (i:Int)∧Aside0 (a+(cnS c_Expr (l.take i):Int)=b)∧Aside0 (Sc S w0 wr)∧Aside0 (Below wl.heap.size wl wr))
 case atStart=>exact ⟨0,a,Nat.zero_le _,Nat.sub_le _ _,ha0,rfl,rfl,HZ,SC,HB⟩
 clear HZ SC HB ha0;obtain ⟨i,b,hi,hgg,hb0,rfl,rfl,HC,SC,HB⟩:=hrel;by_cases hlt:i<l.length
 ·have hz:(i:Int)<(l.length:Int):=by omega
  have hz0:(0:Int)≤(i:Int):=by omega
  have hz1:(i:Int)≤9223372036854775806:=by have:=HL.out;omega
  have hcn:=cnS_take c_Expr z161 l i hlt;have hcl:=cnS_le c_Expr l (i+1);have hb1:b+(c_Expr (l.getD i z161):Int)≤1099511627776:=by have:=HA.out;have:=HC.out;omega
  have HCN:Aside0 (a+(cnS c_Expr (l.take (i+1)):Int)=b+(c_Expr (l.getD i z161):Int)):=⟨by have:=HC.out;omega⟩
  obtain ⟨g,cap,ev,hgb,_,_⟩:=Kd.R_form HR.out (by omega);injection ev with eA _ ec
  subst eA;subst ec;obtain ⟨cc,_,hM,hcc,hff⟩:=Kd.R_elem HR.out z161 (i:Int) hz0 hz;rw [Int.toNat_natCast] at hM hcc hff;have HG:=a_ hgb;have HSG:Aside0 (S g):=⟨HOK.out g (HR.out.1 g (by simp [Value.ownBlock]))⟩
  obtain rfl:=k161_openM hM;generalize l.getD i z161=x at *;have K0:Aside0 (w0.cell? ⟨g,i*8,none⟩=some (.int .i64 x.f0)):=⟨by have:=hcc 0 _ rfl;simpa [show k161.sz=8 from rfl] using this⟩
  have Q0:Aside0 (w0.frozen? ⟨g,i*8,none⟩=false):=⟨by have:=hff 0;simpa [show k161.sz=8 from rfl] using this⟩
  have P0:Aside0 (ScP S w0 ⟨g,i*8,none⟩):=⟨⟨HSG.out,_,K0.out,fun _ _ _ h=>by cases h⟩⟩
  have K1:Aside0 (w0.cell? ⟨g,i*8+1,none⟩=some (.int .u8 x.f1)):=⟨by have:=hcc 1 _ rfl;simpa [show k161.sz=8 from rfl] using this⟩
  have Q1:Aside0 (w0.frozen? ⟨g,i*8+1,none⟩=false):=⟨by have:=hff 1;simpa [show k161.sz=8 from rfl] using this⟩
  have P1:Aside0 (ScP S w0 ⟨g,i*8+1,none⟩):=⟨⟨HSG.out,_,K1.out,fun _ _ _ h=>by cases h⟩⟩
  have K2:Aside0 (w0.cell? ⟨g,i*8+2,none⟩=some (.string x.f2)):=⟨by have:=hcc 2 _ rfl;simpa [show k161.sz=8 from rfl] using this⟩
  have Q2:Aside0 (w0.frozen? ⟨g,i*8+2,none⟩=false):=⟨by have:=hff 2;simpa [show k161.sz=8 from rfl] using this⟩
  have P2:Aside0 (ScP S w0 ⟨g,i*8+2,none⟩):=⟨⟨HSG.out,_,K2.out,fun _ _ _ h=>by cases h⟩⟩
  have K3:Aside0 (w0.cell? ⟨g,i*8+3,none⟩=some (.int .i64 x.f3.f0)):=⟨by have:=hcc 3 _ rfl;simpa [show k161.sz=8 from rfl] using this⟩
  have Q3:Aside0 (w0.frozen? ⟨g,i*8+3,none⟩=false):=⟨by have:=hff 3;simpa [show k161.sz=8 from rfl] using this⟩
  have P3:Aside0 (ScP S w0 ⟨g,i*8+3,none⟩):=⟨⟨HSG.out,_,K3.out,fun _ _ _ h=>by cases h⟩⟩
  have K4:Aside0 (w0.cell? ⟨g,i*8+4,none⟩=some (.int .i64 x.f3.f1)):=⟨by have:=hcc 4 _ rfl;simpa [show k161.sz=8 from rfl] using this⟩
  have Q4:Aside0 (w0.frozen? ⟨g,i*8+4,none⟩=false):=⟨by have:=hff 4;simpa [show k161.sz=8 from rfl] using this⟩
  have P4:Aside0 (ScP S w0 ⟨g,i*8+4,none⟩):=⟨⟨HSG.out,_,K4.out,fun _ _ _ h=>by cases h⟩⟩
  have K5:Aside0 (w0.cell? ⟨g,i*8+5,none⟩=some (.string x.f3.f2)):=⟨by have:=hcc 5 _ rfl;simpa [show k161.sz=8 from rfl] using this⟩
  have Q5:Aside0 (w0.frozen? ⟨g,i*8+5,none⟩=false):=⟨by have:=hff 5;simpa [show k161.sz=8 from rfl] using this⟩
  have P5:Aside0 (ScP S w0 ⟨g,i*8+5,none⟩):=⟨⟨HSG.out,_,K5.out,fun _ _ _ h=>by cases h⟩⟩
  have K6:Aside0 (w0.cell? ⟨g,i*8+6,none⟩=some (.int .i64 x.f4)):=⟨by have:=hcc 6 _ rfl;simpa [show k161.sz=8 from rfl] using this⟩
  have Q6:Aside0 (w0.frozen? ⟨g,i*8+6,none⟩=false):=⟨by have:=hff 6;simpa [show k161.sz=8 from rfl] using this⟩
  have P6:Aside0 (ScP S w0 ⟨g,i*8+6,none⟩):=⟨⟨HSG.out,_,K6.out,fun _ _ _ h=>by cases h⟩⟩
  have K7:Aside0 (w0.cell? ⟨g,i*8+7,none⟩=some (.int .i64 x.f5)):=⟨by have:=hcc 7 _ rfl;simpa [show k161.sz=8 from rfl] using this⟩
  have Q7:Aside0 (w0.frozen? ⟨g,i*8+7,none⟩=false):=⟨by have:=hff 7;simpa [show k161.sz=8 from rfl] using this⟩
  have P7:Aside0 (ScP S w0 ⟨g,i*8+7,none⟩):=⟨⟨HSG.out,_,K7.out,fun _ _ _ h=>by cases h⟩⟩
  have hbb:b≤1099511627776:=by omega
  have HBX:=a_ hb1;clear hcc hff hM hcn hcl hlt hgb hb1;obtain ⟨u0,h0⟩:=Sc.at_ SC.out K0.out;have f0:=Sc.fz SC.out K0.out Q0.out;obtain ⟨u1,h1⟩:=Sc.at_ SC.out K1.out;have f1:=Sc.fz SC.out K1.out Q1.out;obtain ⟨u2,h2⟩:=Sc.at_ SC.out K2.out;have f2:=Sc.fz SC.out K2.out Q2.out;obtain ⟨u3,h3⟩:=Sc.at_ SC.out K3.out;have f3:=Sc.fz SC.out K3.out Q3.out;obtain ⟨u4,h4⟩:=Sc.at_ SC.out K4.out;have f4:=Sc.fz SC.out K4.out Q4.out;obtain ⟨u5,h5⟩:=Sc.at_ SC.out K5.out;have f5:=Sc.fz SC.out K5.out Q5.out;obtain ⟨u6,h6⟩:=Sc.at_ SC.out K6.out;have f6:=Sc.fz SC.out K6.out Q6.out;obtain ⟨u7,h7⟩:=Sc.at_ SC.out K7.out;have f7:=Sc.fz SC.out K7.out Q7.out;go_wp2_with (first|(go_at_call 48;refine (laws_markText.calls 20 _ _ _ (text20 _ (by omega) (by omega))).mono ?_;rintro e wx ⟨rfl,hd⟩;replace SC:=a_ (Sc.below (msc_ SC) hd);replace HB:=ms_ HB hd;clear h0 f0 h1 f1 h2 f2 h3 f3 h4 f4 h5 f5 h6 f6 h7 f7 hd;obtain ⟨u0,h0⟩:=Sc.at_ SC.out K0.out;have f0:=Sc.fz SC.out K0.out Q0.out;obtain ⟨u1,h1⟩:=Sc.at_ SC.out K1.out;have f1:=Sc.fz SC.out K1.out Q1.out;obtain ⟨u2,h2⟩:=Sc.at_ SC.out K2.out;have f2:=Sc.fz SC.out K2.out Q2.out;obtain ⟨u3,h3⟩:=Sc.at_ SC.out K3.out;have f3:=Sc.fz SC.out K3.out Q3.out;obtain ⟨u4,h4⟩:=Sc.at_ SC.out K4.out;have f4:=Sc.fz SC.out K4.out Q4.out;obtain ⟨u5,h5⟩:=Sc.at_ SC.out K5.out;have f5:=Sc.fz SC.out K5.out Q5.out;obtain ⟨u6,h6⟩:=Sc.at_ SC.out K6.out;have f6:=Sc.fz SC.out K6.out Q6.out;obtain ⟨u7,h7⟩:=Sc.at_ SC.out K7.out;have f7:=Sc.fz SC.out K7.out Q7.out));go_roundg (l.length-(i+1))
  case measure=>omega
  case rel=>exact ⟨i+1,_,by omega,Nat.le_refl _,by omega,rfl,by go_num,⟨by rw [HCN.out];unfold c_Expr;omega⟩,⟨msc_ SC⟩,⟨mb_ HB⟩⟩
 ·have hil:i=l.length:=by omega
  subst hil;have hnl:¬((l.length:Nat):Int)<((l.length:Nat):Int):=by omega
  have hc:=HC.out;rw [List.take_length] at hc;have HC2:=a_ hc;clear hc HC hlt;go_wp2;go_ret;exact ⟨congrArg (fun z=>Ending.returned (.int .i64 z)) HC2.out.symm,SC.out,HB.out⟩
def c_Action (x:S98):Nat:=3+cnS c_int x.f3
set_option maxHeartbeats 4000000 in
set_option maxRecDepth 100000 in
theorem sc_markActionS (wl w0 w:World) (S:Nat→Prop) (ok:Nat→Prop) (v:Value) (l:List S98) (a:Int) (hR:Kd.R k98 98 w0 wl.heap.size ok v l) (hok:∀k,ok k→S k) (hS:Sc S w0 w) (hB:Below wl.heap.size wl w) (ha0:0≤a) (ha:a+(cnS c_Action l:Int)≤1099511627776) (hl:l.length≤9223372036854775807):
  Calls Tryz.prog 51 #[v,.int .i64 a] w fun e w'=>e=.returned (.int .i64 (a+(cnS c_Action l:Int)))∧Sc S w0 w'∧Below wl.heap.size wl w':=by
 obtain ⟨A,c,ev⟩:=Kd.R_slice hR;subst ev;have HR:=a_ hR;have HOK:=a_ hok;have SC:=a_ hS;have HB:=a_ hB;have HA:=a_ ha;have HZ:Aside0 (a+(cnS c_Action (l.take 0):Int)=a):=⟨by simp [cnS]⟩
 have HL:=a_ hl;have hu:=Tryz.underlying98;clear hR hok hS hB ha hl;go_enter Tryz.func51,Tryz.ntmps51;go_wp2;go_loopg [1,5] l.length (fun gg v1 v5 wr=>∃(i:Nat) (b:Int),i≤l.length∧l.length-i≤gg∧0≤b∧v1=.int .i64 b∧v5=.int .i64 (i:Int)∧Aside0 (a+(cnS c_Action (l.take i):Int)=b)∧Aside0 (Sc S w0 wr)∧Aside0 (Below wl.heap.size wl wr))
 case atStart=>exact ⟨0,a,Nat.zero_le _,Nat.sub_le _ _,ha0,rfl,rfl,HZ,SC,HB⟩
 clear HZ SC HB ha0;obtain ⟨i,b,hi,hgg,hb0,rfl,rfl,HC,SC,HB⟩:=hrel;by_cases hlt:i<l.length
 ·have hz:(i:Int)<(l.length:Int):=by omega
  have hz0:(0:Int)≤(i:Int):=by omega
  have hz1:(i:Int)≤9223372036854775806:=by have:=HL.out;omega
  have hcn:=cnS_take c_Action z98 l i hlt;have hcl:=cnS_le c_Action l (i+1);have hb1:b+(c_Action (l.getD i z98):Int)≤1099511627776:=by have:=HA.out;have:=HC.out;omega
  have HCN:Aside0 (a+(cnS c_Action (l.take (i+1)):Int)=b+(c_Action (l.getD i z98):Int)):=⟨by have:=HC.out;omega⟩
  obtain ⟨g,cap,ev,hgb,_,_⟩:=Kd.R_form HR.out (by omega);injection ev with eA _ ec
  subst eA;subst ec;obtain ⟨cc,_,hM,hcc,hff⟩:=Kd.R_elem HR.out z98 (i:Int) hz0 hz;rw [Int.toNat_natCast] at hM hcc hff;have HG:=a_ hgb;have HSG:Aside0 (S g):=⟨HOK.out g (HR.out.1 g (by simp [Value.ownBlock]))⟩
  obtain ⟨vs3,rfl,hI3⟩:=k98_openM hM;obtain ⟨A3,c3,es3⟩:=Kd.R_slice hI3;subst es3;have HI3:=a_ hI3;have HLI3:=a_ (Kd.R_reads' hI3).2.2.2.1;generalize l.getD i z98=x at *;have K0:Aside0 (w0.cell? ⟨g,i*4,none⟩=some (.int .i64 x.f0)):=⟨by have:=hcc 0 _ rfl;simpa [show k98.sz=4 from rfl] using this⟩
  have Q0:Aside0 (w0.frozen? ⟨g,i*4,none⟩=false):=⟨by have:=hff 0;simpa [show k98.sz=4 from rfl] using this⟩
  have P0:Aside0 (ScP S w0 ⟨g,i*4,none⟩):=⟨⟨HSG.out,_,K0.out,fun _ _ _ h=>by cases h⟩⟩
  have K1:Aside0 (w0.cell? ⟨g,i*4+1,none⟩=some (.int .i64 x.f1)):=⟨by have:=hcc 1 _ rfl;simpa [show k98.sz=4 from rfl] using this⟩
  have Q1:Aside0 (w0.frozen? ⟨g,i*4+1,none⟩=false):=⟨by have:=hff 1;simpa [show k98.sz=4 from rfl] using this⟩
  have P1:Aside0 (ScP S w0 ⟨g,i*4+1,none⟩):=⟨⟨HSG.out,_,K1.out,fun _ _ _ h=>by cases h⟩⟩
  have K2:Aside0 (w0.cell? ⟨g,i*4+2,none⟩=some (.string x.f2)):=⟨by have:=hcc 2 _ rfl;simpa [show k98.sz=4 from rfl] using this⟩
  have Q2:Aside0 (w0.frozen? ⟨g,i*4+2,none⟩=false):=⟨by have:=hff 2;simpa [show k98.sz=4 from rfl] using this⟩
  have P2:Aside0 (ScP S w0 ⟨g,i*4+2,none⟩):=⟨⟨HSG.out,_,K2.out,fun _ _ _ h=>by cases h⟩⟩
  have K3:Aside0 (w0.cell? ⟨g,i*4+3,none⟩=some (.slice A3 x.f3.length c3)):=⟨by have:=hcc 3 _ rfl;simpa [show k98.sz=4 from rfl] using this⟩
  have hbb:b≤1099511627776:=by omega
  have HBX:=a_ hb1;clear hcc hff hM hI3 hcn hcl hlt hgb hb1;obtain ⟨u0,h0⟩:=Sc.at_ SC.out K0.out;have f0:=Sc.fz SC.out K0.out Q0.out;obtain ⟨u1,h1⟩:=Sc.at_ SC.out K1.out;have f1:=Sc.fz SC.out K1.out Q1.out;obtain ⟨u2,h2⟩:=Sc.at_ SC.out K2.out;have f2:=Sc.fz SC.out K2.out Q2.out;have h3:=Sc.sl SC.out K3.out;go_wp2_with (first|(go_at_call 48;refine (laws_markText.calls 20 _ _ _ (text20 _ (by omega) (by omega))).mono ?_;rintro e wx ⟨rfl,hd⟩;replace SC:=a_ (Sc.below (msc_ SC) hd);replace HB:=ms_ HB hd;clear h0 f0 h1 f1 h2 f2 h3 hd;obtain ⟨u0,h0⟩:=Sc.at_ SC.out K0.out;have f0:=Sc.fz SC.out K0.out Q0.out;obtain ⟨u1,h1⟩:=Sc.at_ SC.out K1.out;have f1:=Sc.fz SC.out K1.out Q1.out;obtain ⟨u2,h2⟩:=Sc.at_ SC.out K2.out;have f2:=Sc.fz SC.out K2.out Q2.out;have h3:=Sc.sl SC.out K3.out)|(go_at_call 95;refine (sc_markIntS wl w0 _ S _ _ x.f3 _ HI3.out (fun k_ hk_=>HOK.out k_ hk_.1) (msc_ SC) (mb_ HB) (by omega) (by have:=HBX.out;unfold c_Action at this;omega) (by have:=HLI3.out;omega)).mono ?_;rintro e wx ⟨rfl,hs_,hb_⟩;replace SC:=a_ hs_;replace HB:=a_ hb_;clear h0 f0 h1 f1 h2 f2 h3 hs_ hb_;obtain ⟨u0,h0⟩:=Sc.at_ SC.out K0.out;have f0:=Sc.fz SC.out K0.out Q0.out;obtain ⟨u1,h1⟩:=Sc.at_ SC.out K1.out;have f1:=Sc.fz SC.out K1.out Q1.out;obtain ⟨u2,h2⟩:=Sc.at_ SC.out K2.out;have f2:=Sc.fz SC.out K2.out Q2.out;have h3:=Sc.sl SC.out K3.out));go_roundg (l.length-(i+1))
  case measure=>omega
  case rel=>exact ⟨i+1,_,by omega,Nat.le_refl _,by omega,rfl,by go_num,⟨by rw [HCN.out];unfold c_Action;omega⟩,⟨msc_ SC⟩,⟨mb_ HB⟩⟩
 ·have hil:i=l.length:=by omega
  subst hil;have hnl:¬((l.length:Nat):Int)<((l.length:Nat):Int):=by omega
  have hc:=HC.out;rw [List.take_length] at hc;have HC2:=a_ hc;clear hc HC hlt;go_wp2;go_ret;exact ⟨congrArg (fun z=>Ending.returned (.int .i64 z)) HC2.out.symm,SC.out,HB.out⟩
def c_Rule (x:S39):Nat:=2+cnS c_Pattern x.f2+cnS c_Expr x.f3+cnS c_Action x.f4
set_option maxHeartbeats 4000000 in
set_option maxRecDepth 100000 in
theorem sc_markRuleS (wl w0 w:World) (S:Nat→Prop) (ok:Nat→Prop) (v:Value) (l:List S39) (a:Int) (hR:Kd.R k39 39 w0 wl.heap.size ok v l) (hok:∀k,ok k→S k) (hS:Sc S w0 w) (hB:Below wl.heap.size wl w) (ha0:0≤a) (ha:a+(cnS c_Rule l:Int)≤1099511627776) (hl:l.length≤9223372036854775807):
  Calls Tryz.prog 18 #[v,.int .i64 a] w fun e w'=>e=.returned (.int .i64 (a+(cnS c_Rule l:Int)))∧Sc S w0 w'∧Below wl.heap.size wl w':=by
 obtain ⟨A,c,ev⟩:=Kd.R_slice hR;subst ev;have HR:=a_ hR;have HOK:=a_ hok;have SC:=a_ hS;have HB:=a_ hB;have HA:=a_ ha;have HZ:Aside0 (a+(cnS c_Rule (l.take 0):Int)=a):=⟨by simp [cnS]⟩
 have HL:=a_ hl;have hu:=Tryz.underlying39;clear hR hok hS hB ha hl;go_enter Tryz.func18,Tryz.ntmps18;go_wp2;go_loopg [1,5] l.length (fun gg v1 v5 wr=>∃(i:Nat) (b:Int),i≤l.length∧l.length-i≤gg∧0≤b∧v1=.int .i64 b∧v5=.int .i64 (i:Int)∧Aside0 (a+(cnS c_Rule (l.take i):Int)=b)∧Aside0 (Sc S w0 wr)∧Aside0 (Below wl.heap.size wl wr))
 case atStart=>exact ⟨0,a,Nat.zero_le _,Nat.sub_le _ _,ha0,rfl,rfl,HZ,SC,HB⟩
 clear HZ SC HB ha0;obtain ⟨i,b,hi,hgg,hb0,rfl,rfl,HC,SC,HB⟩:=hrel;by_cases hlt:i<l.length
 ·have hz:(i:Int)<(l.length:Int):=by omega
  have hz0:(0:Int)≤(i:Int):=by omega
  have hz1:(i:Int)≤9223372036854775806:=by have:=HL.out;omega
  have hcn:=cnS_take c_Rule z39 l i hlt;have hcl:=cnS_le c_Rule l (i+1);have hb1:b+(c_Rule (l.getD i z39):Int)≤1099511627776:=by have:=HA.out;have:=HC.out;omega
  have HCN:Aside0 (a+(cnS c_Rule (l.take (i+1)):Int)=b+(c_Rule (l.getD i z39):Int)):=⟨by have:=HC.out;omega⟩
  obtain ⟨g,cap,ev,hgb,_,_⟩:=Kd.R_form HR.out (by omega);injection ev with eA _ ec
  subst eA;subst ec;obtain ⟨cc,_,hM,hcc,hff⟩:=Kd.R_elem HR.out z39 (i:Int) hz0 hz;rw [Int.toNat_natCast] at hM hcc hff;have HG:=a_ hgb;have HSG:Aside0 (S g):=⟨HOK.out g (HR.out.1 g (by simp [Value.ownBlock]))⟩
  obtain ⟨vs2,vs3,vs4,rfl,hI2,hI3,hI4⟩:=k39_openM hM;obtain ⟨A2,c2,es2⟩:=Kd.R_slice hI2;subst es2;have HI2:=a_ hI2;have HLI2:=a_ (Kd.R_reads' hI2).2.2.2.1;obtain ⟨A3,c3,es3⟩:=Kd.R_slice hI3;subst es3;have HI3:=a_ hI3;have HLI3:=a_ (Kd.R_reads' hI3).2.2.2.1;obtain ⟨A4,c4,es4⟩:=Kd.R_slice hI4;subst es4;have HI4:=a_ hI4;have HLI4:=a_ (Kd.R_reads' hI4).2.2.2.1;generalize l.getD i z39=x at *;have K0:Aside0 (w0.cell? ⟨g,i*5,none⟩=some (.string x.f0)):=⟨by have:=hcc 0 _ rfl;simpa [show k39.sz=5 from rfl] using this⟩
  have Q0:Aside0 (w0.frozen? ⟨g,i*5,none⟩=false):=⟨by have:=hff 0;simpa [show k39.sz=5 from rfl] using this⟩
  have P0:Aside0 (ScP S w0 ⟨g,i*5,none⟩):=⟨⟨HSG.out,_,K0.out,fun _ _ _ h=>by cases h⟩⟩
  have K1:Aside0 (w0.cell? ⟨g,i*5+1,none⟩=some (.int .i64 x.f1)):=⟨by have:=hcc 1 _ rfl;simpa [show k39.sz=5 from rfl] using this⟩
  have Q1:Aside0 (w0.frozen? ⟨g,i*5+1,none⟩=false):=⟨by have:=hff 1;simpa [show k39.sz=5 from rfl] using this⟩
  have P1:Aside0 (ScP S w0 ⟨g,i*5+1,none⟩):=⟨⟨HSG.out,_,K1.out,fun _ _ _ h=>by cases h⟩⟩
  have K2:Aside0 (w0.cell? ⟨g,i*5+2,none⟩=some (.slice A2 x.f2.length c2)):=⟨by have:=hcc 2 _ rfl;simpa [show k39.sz=5 from rfl] using this⟩
  have K3:Aside0 (w0.cell? ⟨g,i*5+3,none⟩=some (.slice A3 x.f3.length c3)):=⟨by have:=hcc 3 _ rfl;simpa [show k39.sz=5 from rfl] using this⟩
  have K4:Aside0 (w0.cell? ⟨g,i*5+4,none⟩=some (.slice A4 x.f4.length c4)):=⟨by have:=hcc 4 _ rfl;simpa [show k39.sz=5 from rfl] using this⟩
  have hbb:b≤1099511627776:=by omega
  have HBX:=a_ hb1;clear hcc hff hM hI2 hI3 hI4 hcn hcl hlt hgb hb1;obtain ⟨u0,h0⟩:=Sc.at_ SC.out K0.out;have f0:=Sc.fz SC.out K0.out Q0.out;obtain ⟨u1,h1⟩:=Sc.at_ SC.out K1.out;have f1:=Sc.fz SC.out K1.out Q1.out;have h2:=Sc.sl SC.out K2.out;have h3:=Sc.sl SC.out K3.out;have h4:=Sc.sl SC.out K4.out;go_wp2_with (first|(go_at_call 48;refine (laws_markText.calls 20 _ _ _ (text20 _ (by omega) (by omega))).mono ?_;rintro e wx ⟨rfl,hd⟩;replace SC:=a_ (Sc.below (msc_ SC) hd);replace HB:=ms_ HB hd;clear h0 f0 h1 f1 h2 h3 h4 hd;obtain ⟨u0,h0⟩:=Sc.at_ SC.out K0.out;have f0:=Sc.fz SC.out K0.out Q0.out;obtain ⟨u1,h1⟩:=Sc.at_ SC.out K1.out;have f1:=Sc.fz SC.out K1.out Q1.out;have h2:=Sc.sl SC.out K2.out;have h3:=Sc.sl SC.out K3.out;have h4:=Sc.sl SC.out K4.out)|(go_at_call 49;refine (sc_markPatternS wl w0 _ S _ _ x.f2 _ HI2.out (fun k_ hk_=>HOK.out k_ hk_.1) (msc_ SC) (mb_ HB) (by omega) (by have:=HBX.out;unfold c_Rule at this;omega) (by have:=HLI2.out;omega)).mono ?_;rintro e wx ⟨rfl,hs_,hb_⟩;replace SC:=a_ hs_;replace HB:=a_ hb_;clear h0 f0 h1 f1 h2 h3 h4 hs_ hb_;obtain ⟨u0,h0⟩:=Sc.at_ SC.out K0.out;have f0:=Sc.fz SC.out K0.out Q0.out;obtain ⟨u1,h1⟩:=Sc.at_ SC.out K1.out;have f1:=Sc.fz SC.out K1.out Q1.out;have h2:=Sc.sl SC.out K2.out;have h3:=Sc.sl SC.out K3.out;have h4:=Sc.sl SC.out K4.out)|(go_at_call 50;refine (sc_markExprS wl w0 _ S _ _ x.f3 _ HI3.out (fun k_ hk_=>HOK.out k_ hk_.1) (msc_ SC) (mb_ HB) (by omega) (by have:=HBX.out;unfold c_Rule at this;omega) (by have:=HLI3.out;omega)).mono ?_;rintro e wx ⟨rfl,hs_,hb_⟩;replace SC:=a_ hs_;replace HB:=a_ hb_;clear h0 f0 h1 f1 h2 h3 h4 hs_ hb_;obtain ⟨u0,h0⟩:=Sc.at_ SC.out K0.out;have f0:=Sc.fz SC.out K0.out Q0.out;obtain ⟨u1,h1⟩:=Sc.at_ SC.out K1.out;have f1:=Sc.fz SC.out K1.out Q1.out;have h2:=Sc.sl SC.out K2.out;have h3:=Sc.sl SC.out K3.out;have h4:=Sc.sl SC.out K4.out)|(go_at_call 51;refine (sc_markActionS wl w0 _ S _ _ x.f4 _ HI4.out (fun k_ hk_=>HOK.out k_ hk_.1) (msc_ SC) (mb_ HB) (by omega) (by have:=HBX.out;unfold c_Rule at this;omega) (by have:=HLI4.out;omega)).mono ?_;rintro e wx ⟨rfl,hs_,hb_⟩;replace SC:=a_ hs_;replace HB:=a_ hb_;clear h0 f0 h1 f1 h2 h3 h4 hs_ hb_;obtain ⟨u0,h0⟩:=Sc.at_ SC.out K0.out;have f0:=Sc.fz SC.out K0.out Q0.out;obtain ⟨u1,h1⟩:=Sc.at_ SC.out K1.out;have f1:=Sc.fz SC.out K1.out Q1.out;have h2:=Sc.sl SC.out K2.out;have h3:=Sc.sl SC.out K3.out;have h4:=Sc.sl SC.out K4.out));go_roundg (l.length-(i+1))
  case measure=>omega
  case rel=>exact ⟨i+1,_,by omega,Nat.le_refl _,by omega,rfl,by go_num,⟨by rw [HCN.out];unfold c_Rule;omega⟩,⟨msc_ SC⟩,⟨mb_ HB⟩⟩
 ·have hil:i=l.length:=by omega
  subst hil;have hnl:¬((l.length:Nat):Int)<((l.length:Nat):Int):=by omega
  have hc:=HC.out;rw [List.take_length] at hc;have HC2:=a_ hc;clear hc HC hlt;go_wp2;go_ret;exact ⟨congrArg (fun z=>Ending.returned (.int .i64 z)) HC2.out.symm,SC.out,HB.out⟩
end Go.Proofs.YtahambloheoebaaGreatDoor.Pure
namespace Go.Proofs.YtahambloheoebaaGreatDoor.Pure
open Go.RowKit Go.Proofs.YtahambloheoebaaGreatDoor.P Go.Proofs.YtahambloheoebaaGreatDoorW.PrintWords Go.Proofs.YtahambloheoebaaGreatDoorW.PrintLast Go.Proofs.YtahambloheoebaaGreatDoorX
set_option linter.unusedVariables false
set_option linter.unusedSimpArgs false
def FnExactPrintRules.Facts (k:Nat) (l:List S94):Prop:=
 ∃s1:Int,laws_szRuleS.f k l 1048576=some s1∧(s1<0∨(0≤s1∧
  ∃(R:List S39) (t:ByteArray),
   laws_toRuleS.f k l=some R∧spec_PrintRules.f k R=some t∧impl_PrintRules.f k R=some t∧laws_eqByteS.f k (numsB t) (numsB t)=some true∧
   laws_eqRuleS.f k R R=some true∧1+(cnS c_Rule R:Int)≤1099511627776∧(numsB t).length≤1152921504606846976∧laws_heldByteS.f k (markL 1 (numsB t).length) 1=some (1+((numsB t).length:Int))))
open Classical in
noncomputable def laws_FnExactPrintRules.f (k:Nat) (l:List S94):Option Bool:=if FnExactPrintRules.Facts k l then some true else none
set_option maxHeartbeats 16000000 in
set_option maxRecDepth 100000 in
theorem laws_FnExactPrintRules.calls (k:Nat) (A0:Option Addr) (c0:Nat) (l0:List S94) (r:Bool) (w:World)
  (hr0:Kd.C k94 w A0 l0.length l0) (hc0:l0.length≤c0) (h:laws_FnExactPrintRules.f k l0=some r) (htb_:TBS w):
  Calls Tryz.prog 4 #[.slice A0 l0.length c0] w fun e w'=>e=.returned (.bool r)∧Below w.heap.size w w':=by
 unfold laws_FnExactPrintRules.f at h
 split at h
 case isFalse=>cases h
 case isTrue hF=>
 have hr:=Option.some.inj h;subst hr;clear h;have HTB:=a_ htb_;clear htb_;have HR0:=a_ hr0;have HC0:=a_ hc0;have HB0:=a_ (Below.refl w.heap.size w);clear hr0 hc0;obtain ⟨s1,p1,hF⟩:=hF;have P1:=a_ p1;clear p1;rcases hF with hn|⟨hp,R,t,p3,p5,p6,p7,p8,p10,p12,p14⟩
 ·have hb1:decide (s1<0)=true:=decide_eq_true hn
  clear hn;go_enter Tryz.func4,Tryz.ntmps4;go_wp2_with (first
  | (go_at_call 12;refine (laws_szRuleS.calls k _ _ l0 1048576 s1 _ (Kd.C_below HR0.out HB0.out) HC0.out P1.out).mono ?_;rintro e w16 ⟨rfl,hd⟩;have hs16:w.heap.size≤w16.heap.size:=hd.size;have HB16:Aside0 (Below w.heap.size w w16):=⟨below_step HB0.out hd⟩;clear hd))
  go_ret;exact ⟨rfl,HB16.out⟩
 have P3:=a_ p3;have P5:=a_ p5;have P6:=a_ p6;have P7:=a_ p7;have P8:=a_ p8;have P10:=a_ p10;have P14:=a_ p14;have LEN:=a_ p12;have hb1:decide (s1<0)=false:=decide_eq_false (by omega)
 have hb2:decide (1+(cnS c_Rule R:Int)<0)=false:=decide_eq_false (by omega)
 have hb5:(1+((numsB t).length:Int) != 1+((numsB t).length:Int))=false:=by simp
 have hb4:decide (1+((numsB t).length:Int)<0)=false:=decide_eq_false (by omega)
 clear hp p3 p5 p6 p7 p8 p10 p12 p14;go_enter Tryz.func4,Tryz.ntmps4
 go_wp2_with (first
  | (go_at_call 12;refine (laws_szRuleS.calls k _ _ l0 1048576 s1 _ (Kd.C_below HR0.out HB0.out) HC0.out P1.out).mono ?_;rintro e w16 ⟨rfl,hd⟩;have hs16:w.heap.size≤w16.heap.size:=hd.size;have HB16:Aside0 (Below w.heap.size w w16):=⟨below_step HB0.out hd⟩;clear hd)
  | (go_at_call 14;refine (laws_toRuleS.calls k _ _ l0 R _ (Kd.C_below HR0.out HB16.out) HC0.out P3.out).mono ?_;rintro e w25 ⟨v0,rfl,ho0,hd⟩;(obtain ⟨At0,ct0,e_⟩:=Kd.R_slice ho0);subst e_;have hs25:w16.heap.size≤w25.heap.size:=hd.size;have HB25:Aside0 (Below w.heap.size w w25):=⟨below_step HB16.out hd⟩;clear HB16;have HOt0_25:=a_ (R_in ho0);clear ho0;clear hd)
  | (go_at_call 13;refine (spec_PrintRules.calls k _ _ R t _ (R_read HOt0_25.out) (R_room HOt0_25.out) P5.out).mono ?_;rintro e w28 ⟨v0,rfl,ho0,hd⟩;(obtain ⟨Aw0,cw0,e_,_,_⟩:=BR.C ho0 (by have:=LEN.out;omega));subst e_;have hs28:w25.heap.size≤w28.heap.size:=hd.size;have HB28:Aside0 (Below w.heap.size w w28):=⟨below_step HB25.out hd⟩;clear HB25;clear HOt0_25;have HOw0_28:=a_ (BI_in ho0);clear ho0;clear hd)
  | (go_at_call 14;refine (laws_toRuleS.calls k _ _ l0 R _ (Kd.C_below HR0.out HB28.out) HC0.out P3.out).mono ?_;rintro e w30 ⟨v0,rfl,ho0,hd⟩;(obtain ⟨Ax0,cx0,e_⟩:=Kd.R_slice ho0);subst e_;have hs30:w28.heap.size≤w30.heap.size:=hd.size;have HB30:Aside0 (Below w.heap.size w w30):=⟨below_step HB28.out hd⟩;have HOw0_30:=a_ (BI.below HOw0_28.out hd);clear HOw0_28;have HOx0_30:=a_ (R_in ho0);clear ho0;have BL30:=a_ (below_step (Below.refl _ _) hd);clear hd)
  | (go_at_call 15;refine (impl_PrintRules.calls k _ _ R t _ (R_read HOx0_30.out) (R_room HOx0_30.out) P6.out (TBS.below HTB.out HB30.out)).mono ?_;rintro e w35 ⟨v0,rfl,ho0,hd⟩;(obtain ⟨Ag0,cg0,e_,_,_⟩:=BR.C ho0 (by have:=LEN.out;omega));subst e_;have hs35:w30.heap.size≤w35.heap.size:=hd.size;have HB35:Aside0 (Below w.heap.size w w35):=⟨below_step HB30.out hd⟩;clear HB30;have HOw0_35:=a_ (BI.below HOw0_30.out hd);clear HOw0_30;have HOx0_35:=a_ (Kd.R_below HOx0_30.out hd);clear HOx0_30;have HOg0_35:=a_ (BI_in ho0);clear ho0;have BL35:=a_ (below_step (BL30.out) hd);clear BL30;clear hd)
  | (go_at_call 16;refine (laws_eqByteS.calls k _ _ (numsB t) _ _ (numsB t) true _ (BI_read HOg0_35.out (by have:=LEN.out;omega)) (BI_room HOg0_35.out (by have:=LEN.out;omega)) (BI_read HOw0_35.out (by have:=LEN.out;omega)) (BI_room HOw0_35.out (by have:=LEN.out;omega)) P7.out).mono ?_;rintro e w38 ⟨rfl,hd⟩;replace hd:=hd.below;have hs38:w35.heap.size≤w38.heap.size:=hd.size;have HB38:Aside0 (Below w.heap.size w w38):=⟨below_step HB35.out hd⟩;clear HB35;have HOw0_38:=a_ (BI.below HOw0_35.out hd);clear HOw0_35;have HOx0_38:=a_ (Kd.R_below HOx0_35.out hd);clear HOx0_35;have HOg0_38:=a_ (BI.below HOg0_35.out hd);clear HOg0_35;have BL38:=a_ (below_step (BL35.out) hd);clear BL35;clear hd)
  | (go_at_call 14;refine (laws_toRuleS.calls k _ _ l0 R _ (Kd.C_below HR0.out HB38.out) HC0.out P3.out).mono ?_;rintro e w42 ⟨v0,rfl,ho0,hd⟩;(obtain ⟨Ar2,cr2,e_⟩:=Kd.R_slice ho0);subst e_;have hs42:w38.heap.size≤w42.heap.size:=hd.size;have HB42:Aside0 (Below w.heap.size w w42):=⟨below_step HB38.out hd⟩;clear HB38;have HOw0_42:=a_ (BI.below HOw0_38.out hd);clear HOw0_38;have HOx0_42:=a_ (Kd.R_below HOx0_38.out hd);clear HOx0_38;have HOg0_42:=a_ (BI.below HOg0_38.out hd);clear HOg0_38;have HOr2_42:=a_ (R_in ho0);clear ho0;have BL42:=a_ (below_step (BL38.out) hd);clear BL38;clear hd)
  | (go_at_call 17;refine (laws_eqRuleS.calls k _ _ R _ _ R true _ (R_read HOx0_42.out) (R_room HOx0_42.out) (R_read HOr2_42.out) (R_room HOr2_42.out) P8.out).mono ?_;rintro e w43 ⟨rfl,hd⟩;have hs43:w42.heap.size≤w43.heap.size:=hd.size;have HB43:Aside0 (Below w.heap.size w w43):=⟨below_step HB42.out hd⟩;clear HB42;have HOw0_43:=a_ (BI.below HOw0_42.out hd);clear HOw0_42;have HOx0_43:=a_ (Kd.R_below HOx0_42.out hd);clear HOx0_42;have HOg0_43:=a_ (BI.below HOg0_42.out hd);clear HOg0_42;clear HOr2_42;have BL43:=a_ (below_step (BL42.out) hd);clear BL42;clear hd)
  | (go_at_call 18;refine (sc_markRuleS w28 w43 _ (In w28.heap.size w30.heap.size) _ _ R 1 HOx0_43.out (fun _ h=>h) (Sc.refl _ _) BL43.out (by decide) P10.out (R_read HOx0_43.out).2.1).mono ?_;rintro e w52 ⟨rfl,hs_,hb_⟩;have hk:=hs_.2.2;have hs52:w43.heap.size≤w52.heap.size:=hk.1;have HB52:Aside0 (Below w.heap.size w w52):=⟨below_step HB28.out hb_⟩;clear HB43;have HOw0_52:=a_ (BI.kept HOw0_43.out hk (in_lt (by omega)));clear HOw0_43;clear HOx0_43;have HOg0_52:=a_ (BI.kept HOg0_43.out hk (in_gt (by omega)));clear HOg0_43;clear hk;clear hs_ hb_ BL43 HB28)
  | (go_at_call 16;refine (laws_eqByteS.calls k _ _ (numsB t) _ _ (numsB t) true _ (BI_read HOg0_52.out (by have:=LEN.out;omega)) (BI_room HOg0_52.out (by have:=LEN.out;omega)) (BI_read HOw0_52.out (by have:=LEN.out;omega)) (BI_room HOw0_52.out (by have:=LEN.out;omega)) P7.out).mono ?_;rintro e w61 ⟨rfl,hd⟩;replace hd:=hd.below;have hs61:w52.heap.size≤w61.heap.size:=hd.size;have HB61:Aside0 (Below w.heap.size w w61):=⟨below_step HB52.out hd⟩;clear HB52;have HOw0_61:=a_ (BI.below HOw0_52.out hd);clear HOw0_52;have HOg0_61:=a_ (BI.below HOg0_52.out hd);clear HOg0_52;clear hd)
  | (go_at_call 19;refine (markB_calls _ w30.heap.size w35.heap.size _ (numsB t) 1 HOg0_61.out (by omega) (by decide) (by have:=LEN.out;omega)).mono ?_;rintro e w66 ⟨rfl,ho,hk,hb⟩;have HOgm_66:=a_ ho;clear ho;have hs66:w61.heap.size≤w66.heap.size:=hk.1;have HB66:Aside0 (Below w.heap.size w w66):=⟨HB61.out.trans (hb.mono (by omega))⟩;clear HB61;have HOw0_66:=a_ (BI.kept HOw0_61.out hk (in_lt (by omega)));clear HOw0_61;clear HOg0_61;clear hk;clear hb)
  | (go_at_call 20;refine (calls_of_args (args':=#[.slice Ag0 (markL 1 (numsB t).length).length cg0,.int .i64 1]) (by rw [markL_length]) (laws_heldByteS.calls k _ _ (markL 1 (numsB t).length) 1 (1+((numsB t).length:Int)) _ (BI_read HOgm_66.out (by rw [markL_length];have:=LEN.out;omega)) (BI_room HOgm_66.out (by rw [markL_length];have:=LEN.out;omega)) P14.out)).mono ?_;rintro e w69 ⟨rfl,hd⟩;replace hd:=hd.below;have hs69:w66.heap.size≤w69.heap.size:=hd.size;have HB69:Aside0 (Below w.heap.size w w69):=⟨below_step HB66.out hd⟩;clear HB66;have HOw0_69:=a_ (BI.below HOw0_66.out hd);clear HOw0_66;have HOgm_69:=a_ (BI.below HOgm_66.out hd);clear HOgm_66;clear hd)
  | (go_at_call 14;refine (laws_toRuleS.calls k _ _ l0 R _ (Kd.C_below HR0.out HB69.out) HC0.out P3.out).mono ?_;rintro e w76 ⟨v0,rfl,ho0,hd⟩;(obtain ⟨Ar3,cr3,e_⟩:=Kd.R_slice ho0);subst e_;have hs76:w69.heap.size≤w76.heap.size:=hd.size;have HB76:Aside0 (Below w.heap.size w w76):=⟨below_step HB69.out hd⟩;clear HB69;have HOw0_76:=a_ (BI.below HOw0_69.out hd);clear HOw0_69;have HOgm_76:=a_ (BI.below HOgm_69.out hd);clear HOgm_69;have HOr3_76:=a_ (R_in ho0);clear ho0;clear hd)
  | (go_at_call 15;refine (impl_PrintRules.calls k _ _ R t _ (R_read HOr3_76.out) (R_room HOr3_76.out) P6.out (TBS.below HTB.out HB76.out)).mono ?_;rintro e w79 ⟨v0,rfl,ho0,hd⟩;(obtain ⟨Ah0,ch0,e_,_,_⟩:=BR.C ho0 (by have:=LEN.out;omega));subst e_;have hs79:w76.heap.size≤w79.heap.size:=hd.size;have HB79:Aside0 (Below w.heap.size w w79):=⟨below_step HB76.out hd⟩;clear HB76;have HOw0_79:=a_ (BI.below HOw0_76.out hd);clear HOw0_76;have HOgm_79:=a_ (BI.below HOgm_76.out hd);clear HOgm_76;clear HOr3_76;have HOh0_79:=a_ (BI_in ho0);clear ho0;clear hd)
  | (go_at_call 16;refine (laws_eqByteS.calls k _ _ (numsB t) _ _ (numsB t) true _ (BI_read HOh0_79.out (by have:=LEN.out;omega)) (BI_room HOh0_79.out (by have:=LEN.out;omega)) (BI_read HOw0_79.out (by have:=LEN.out;omega)) (BI_room HOw0_79.out (by have:=LEN.out;omega)) P7.out).mono ?_;rintro e w82 ⟨rfl,hd⟩;replace hd:=hd.below;have hs82:w79.heap.size≤w82.heap.size:=hd.size;have HB82:Aside0 (Below w.heap.size w w82):=⟨below_step HB79.out hd⟩;clear HB79;have HOw0_82:=a_ (BI.below HOw0_79.out hd);clear HOw0_79;have HOgm_82:=a_ (BI.below HOgm_79.out hd);clear HOgm_79;clear HOh0_79;clear hd)
  | (go_at_call 20;refine (calls_of_args (args':=#[.slice Ag0 (markL 1 (numsB t).length).length cg0,.int .i64 1]) (by rw [markL_length]) (laws_heldByteS.calls k _ _ (markL 1 (numsB t).length) 1 (1+((numsB t).length:Int)) _ (BI_read HOgm_82.out (by rw [markL_length];have:=LEN.out;omega)) (BI_room HOgm_82.out (by rw [markL_length];have:=LEN.out;omega)) P14.out)).mono ?_;rintro e w86 ⟨rfl,hd⟩;replace hd:=hd.below;have hs86:w82.heap.size≤w86.heap.size:=hd.size;have HB86:Aside0 (Below w.heap.size w w86):=⟨below_step HB82.out hd⟩;clear HB82;have HOw0_86:=a_ (BI.below HOw0_82.out hd);clear HOw0_82;have HOgm_86:=a_ (BI.below HOgm_82.out hd);clear HOgm_82;clear hd))
 go_ret;exact ⟨rfl,HB86.out⟩
end Go.Proofs.YtahambloheoebaaGreatDoor.Pure
namespace Go.Proofs.YtahambloheoebaaGreatDoorX
open Go.RowKit Go.Proofs.YtahambloheoebaaGreatDoorW.PrintWords
set_option linter.unusedVariables false
set_option linter.unusedSimpArgs false
theorem Ev.ifT {α : Type} {c:Prop} [Decidable c] {f g:Nat→Option α} {r : α} (h:c) (k:Ev f r):Ev (fun n=>if c then f n else g n) r:=by
 obtain ⟨K,k⟩:=k;exact ⟨K,fun n hn=>(if_pos h).trans (k n hn)⟩
theorem Ev.ifF {α : Type} {c:Prop} [Decidable c] {f g:Nat→Option α} {r : α} (h:¬c) (k:Ev g r):Ev (fun n=>if c then f n else g n) r:=by
 obtain ⟨K,k⟩:=k;exact ⟨K,fun n hn=>(if_neg h).trans (k n hn)⟩
theorem Ev.ite {α : Type} {c:Prop} [Decidable c] {f g:Nat→Option α} {r : α} (h1:c→Ev f r) (h2:¬c→Ev g r):Ev (fun n=>if c then f n else g n) r:=by
 by_cases h:c
 ·exact Ev.ifT h (h1 h)
 ·exact Ev.ifF h (h2 h)
theorem Ev.bindS {α β : Type} {f:Nat→α→Option β} {a : α} {r : β} (k:Ev (fun n=>f n a) r):Ev (fun n=>(some a).bind (f n)) r:=k
theorem Ev.bindE {α β : Type} {g:Option α} {f:Nat→α→Option β} {a : α} {r : β} (h:g=some a) (k:Ev (fun n=>f n a) r):Ev (fun n=>g.bind (f n)) r:=by
 subst h;exact k
theorem Ev.as {α : Type} {g:Nat→Option α} {r r' : α} (h:Ev g r) (e:r=r'):Ev g r':=e▸h
end Go.Proofs.YtahambloheoebaaGreatDoorX
namespace Go.Proofs.YtahambloheoebaaGreatDoor.Pure
open Go.RowKit Go.Proofs.YtahambloheoebaaGreatDoor.P Go.Proofs.YtahambloheoebaaGreatDoorW.PrintWords Go.Proofs.YtahambloheoebaaGreatDoorW.PrintLast Go.Proofs.YtahambloheoebaaGreatDoorX
set_option linter.unusedVariables false
set_option linter.unusedSimpArgs false
theorem goodSym_loop (s:ByteArray) (hs:s.size≤9223372036854775807):∀i,i≤s.size→Ev (fun k=>spec_l1GoodSym.l0 k s (i:Int)) (symFrom s i):=by
 refine up_ind ?_ ?_
 ·rw [symFrom_end];refine Ev.step (fun k=>by simp only [spec_l1GoodSym.l0];exact rfl) ?_;exact Ev.ifF (by omega) (Ev.now _)
 ·intro i hi ih;rw [symFrom_step s i hi];refine Ev.step (fun k=>by simp only [spec_l1GoodSym.l0,wrap_succ hi hs];exact rfl) ?_;refine Ev.ifT (by omega) ?_;refine Ev.ifT (by omega) ?_;generalize bt s (i:Int)=c
  have good:symOk c=true→Ev (fun k=>spec_l1GoodSym.l0 k s ((i+1:Nat):Int)) (symOk c&&symFrom s (i+1)):=by
   intro h;rw [h,Bool.true_and];exact ih
  have bad:symOk c=false→Ev (fun _=>some false) (symOk c&&symFrom s (i+1)):=by
   intro h;rw [h,Bool.false_and];exact Ev.now _
  repeat (first
   | exact good (by simp [symOk];omega)
   | exact bad (by simp [symOk];omega)
   | refine Ev.ite (fun _=>?_) (fun _=>?_))
theorem l1GoodSym_some (s:ByteArray):Ev (fun k=>spec_l1GoodSym.f k s) (goodSymB s):=by
 have hj:∀(b:Bool),s.size≤20→Ev (fun k=>spec_l1GoodSym.j0 k s b) (if b=true then false else symFrom s 0):=by
  intro b hs;refine Ev.step (fun k=>by simp only [spec_l1GoodSym.j0];exact rfl) ?_;cases b with
  | true=>exact Ev.ifT (by trivial) (Ev.now _)
  | false=>exact Ev.ifF (by simp) (goodSym_loop s (by omega) 0 (by omega))
 have hj1:Ev (fun k=>spec_l1GoodSym.j0 k s true) false:=by
  refine Ev.step (fun k=>by simp only [spec_l1GoodSym.j0];exact rfl) ?_;exact Ev.ifT (by trivial) (Ev.now _)
 unfold goodSymB
 refine Ev.congr (fun k=>by unfold spec_l1GoodSym.f;exact rfl) ?_;by_cases c1:s.size=0
 ·rw [if_pos c1];exact Ev.ifT (by omega) hj1
 rw [if_neg c1];refine Ev.ifF (by omega) ?_;by_cases c2:20<s.size
 ·rw [if_pos c2];exact Ev.ifT (by omega) hj1
 rw [if_neg c2];refine Ev.ifF (by omega) ?_;refine Ev.ifT (by omega) ?_;by_cases c3:bt s 0<97
 ·rw [if_pos c3];exact Ev.ifT (by omega) hj1
 rw [if_neg c3];refine Ev.ifF (by omega) ?_;refine Ev.as (hj _ (by omega)) ?_;by_cases c4:122<bt s 0
 ·rw [if_pos c4,if_pos (by simpa using c4)]
 ·rw [if_neg c4,if_neg (by simpa using c4)]
theorem toList_nil_iff (s:ByteArray):s.toList=[]↔s.toList.isEmpty=true:=by rw [List.isEmpty_iff]
theorem goodValueB_def (v:S80):goodValueB v=if v.f0=0 then v.f2.toList.isEmpty else if v.f0=1 then (if v.f1=0 then goodSymB v.f2 else false) else false:=by
 unfold goodValueB impl_Value_good.f impl_goodSym.f
 simp only [Option.bind_some];by_cases h:v.f0=0
 ·rw [if_pos h,if_pos h];simp only [Option.getD_some];rw [Bool.eq_iff_iff,beq_iff_eq];exact toList_nil_iff _
 ·rw [if_neg h,if_neg h];split
  ·split<;>rfl
  ·rfl
theorem l1GoodVal_some (v:S80):Ev (fun k=>spec_l1GoodVal.f k v.f0 v.f1 v.f2) (goodValueB v):=by
 rw [goodValueB_def];refine Ev.congr (fun k=>by unfold spec_l1GoodVal.f;exact rfl) ?_;refine Ev.ite (fun c0=>?_) (fun c0=>?_)
 ·rw [if_pos c0];refine Ev.ite (fun c1=>?_) (fun c1=>?_)
  ·exact Ev.as (Ev.now _) ((toList_nil_iff _).1 c1).symm
  ·rw [toList_nil_iff,Bool.not_eq_true] at c1;rw [c1];exact Ev.ifF (by omega) (Ev.now _)
 ·rw [if_neg c0];refine Ev.ite (fun c1=>?_) (fun c1=>?_)
  ·rw [if_pos c1];refine Ev.ite (fun c2=>?_) (fun c2=>?_)
   ·rw [if_pos c2];exact Ev.bind (l1GoodSym_some _) (Ev.now _)
   ·rw [if_neg c2];exact Ev.now _
  ·rw [if_neg c1];exact Ev.now _
theorem l2GoodCls_some (s:ByteArray):Ev (fun k=>spec_l2GoodCls.f k s) (goodClsB s):=by
 refine Ev.congr (fun k=>by unfold spec_l2GoodCls.f;exact rfl) ?_;refine Ev.bind (l1GoodSym_some _) ?_;unfold goodClsB
 refine Ev.ite (fun c0=>?_) (fun c0=>?_)
 ·rw [c0];exact Ev.now _
 ·rw [Bool.not_eq_true] at c0;rw [c0];exact Ev.now _
theorem l2Zero_some (v:S80):spec_l2Zero.f v.f0 v.f1 v.f2=some (zeroValB v):=by
 unfold spec_l2Zero.f zeroValB
 have e:(v.f2.toList==([]:List UInt8))=v.f2.toList.isEmpty:=by
  rw [Bool.eq_iff_iff,beq_iff_eq];exact toList_nil_iff _
 rw [e]
theorem goodSymB_nil (s:ByteArray) (h:s.toList.isEmpty=true):goodSymB s=false:=by
 have:s.size=0:=by
  rw [←toList_nil_iff,ByteArray.toList_eq] at h;have:=congrArg List.length h
  rw [Array.length_toList] at this;simpa using this
 unfold goodSymB
 rw [if_pos this]
theorem l2GoodTerm_some (t:S86):Ev (fun k=>spec_l2GoodTerm.f k t.f0 t.f1 t.f2 t.f3.f0 t.f3.f1 t.f3.f2) (goodTermB t):=by
 refine Ev.congr (fun k=>by unfold spec_l2GoodTerm.f;exact rfl) ?_;unfold goodTermB
 have hz:=l2Zero_some t.f3;have hv:=l1GoodVal_some t.f3;have hs:=l1GoodSym_some t.f2;refine Ev.ite (fun c0=>?_) (fun c0=>?_)
 ·rw [if_pos c0];refine Ev.ite (fun c1=>?_) (fun c1=>?_)
  ·refine Ev.ite (fun c2=>?_) (fun c2=>?_)
   ·rw [toList_nil_iff] at c2;refine Ev.bindE hz (Ev.as (Ev.now _) ?_);rw [c1,c2];rfl
   ·rw [toList_nil_iff,Bool.not_eq_true] at c2;refine Ev.as (Ev.now _) ?_;rw [c1,c2];rfl
  ·refine Ev.as (Ev.now _) ?_;rw [beq_eq_false_iff_ne.mpr c1];rfl
 rw [if_neg c0];refine Ev.ite (fun c0=>?_) (fun c0=>?_)
 ·rw [if_pos c0];refine Ev.ite (fun c1=>?_) (fun c1=>?_)
  ·refine Ev.ite (fun c2=>?_) (fun c2=>?_)
   ·rw [toList_nil_iff] at c2;refine Ev.bind hv (Ev.as (Ev.now _) ?_);rw [c1,c2];rfl
   ·rw [toList_nil_iff,Bool.not_eq_true] at c2;refine Ev.as (Ev.now _) ?_;rw [c1,c2];rfl
  ·refine Ev.as (Ev.now _) ?_;rw [beq_eq_false_iff_ne.mpr c1];rfl
 rw [if_neg c0];refine Ev.ite (fun c0=>?_) (fun c0=>?_)
 ·rw [if_pos c0];refine Ev.ite (fun c1=>?_) (fun c1=>?_)
  ·refine Ev.bind hs ?_;refine Ev.ite (fun c2=>?_) (fun c2=>?_)
   ·refine Ev.bindE hz (Ev.as (Ev.now _) ?_);rw [c1,c2];simp
   ·rw [Bool.not_eq_true] at c2;refine Ev.as (Ev.now _) ?_;rw [c2];simp
  ·refine Ev.as (Ev.now _) ?_;rw [beq_eq_false_iff_ne.mpr c1];rfl
 rw [if_neg c0];refine Ev.ite (fun c0=>?_) (fun c0=>?_)
 ·rw [if_pos c0];refine Ev.ite (fun c1=>?_) (fun c1=>?_)
  ·rw [if_neg (by omega)];refine Ev.ite (fun c2=>?_) (fun c2=>?_)
   ·rw [if_neg (by omega)];refine Ev.ite (fun c3=>?_) (fun c3=>?_)
    ·rw [toList_nil_iff] at c3;rw [if_pos c3];refine Ev.bind hv ?_;refine Ev.ite (fun c4=>?_) (fun c4=>?_)
     ·rw [c4];exact Ev.now _
     ·rw [Bool.not_eq_true] at c4;rw [c4];refine Ev.bind hs ?_;refine Ev.ifF ?_ (Ev.now _);rw [goodSymB_nil _ c3];simp
    ·rw [toList_nil_iff] at c3;rw [if_neg c3];refine Ev.bind hs ?_;refine Ev.ite (fun c4=>?_) (fun c4=>?_)
     ·rw [c4,Bool.true_and];exact Ev.bindE hz (Ev.now _)
     ·rw [Bool.not_eq_true] at c4;rw [c4];exact Ev.now _
   ·rw [if_pos (by omega)];exact Ev.now _
  ·rw [if_pos (by omega)];exact Ev.now _
 rw [if_neg c0];exact Ev.now _
theorem l2GoodPat_loop (ts:List S86) (hl:ts.length≤9223372036854775807):∀i,i≤ts.length→Ev (fun k=>spec_l2GoodPat.l0 k ts (ts.length:Int) (i:Int)) ((ts.drop i).all goodTermB):=by
 refine up_ind ?_ ?_
 ·rw [List.drop_length];refine Ev.step (fun k=>by simp only [spec_l2GoodPat.l0];exact rfl) ?_;exact Ev.ifF (by omega) (Ev.now _)
 ·intro i hi ih;rw [drop_getD z86 hi,List.all_cons];have hrd:rd_T86 ts (i:Int)=ts.getD i z86:=by simp [rd_T86]
  refine Ev.step (fun k=>by simp only [spec_l2GoodPat.l0,wrap_succ hi hl,hrd];exact rfl) ?_;refine Ev.ifT (by omega) ?_;refine Ev.ifT (by omega) ?_;refine Ev.ifT (by omega) ?_;refine Ev.bind (l2GoodTerm_some (ts.getD i z86)) ?_;refine Ev.ite (fun c=>?_) (fun c=>?_)
  ·rw [c,Bool.true_and];exact ih
  ·rw [Bool.not_eq_true] at c;rw [c];exact Ev.now _
theorem l2GoodPat_some (neg:Bool) (cls:ByteArray) (ts:List S86):Ev (fun k=>spec_l2GoodPat.f k neg cls ts) (goodPatB cls ts):=by
 refine Ev.congr (fun k=>by unfold spec_l2GoodPat.f;exact rfl) ?_;unfold goodPatB
 refine Ev.bind (l2GoodCls_some _) ?_;refine Ev.ite (fun c=>?_) (fun c=>?_)
 ·rw [c,Bool.true_and];refine Ev.step (fun k=>by simp only [spec_l2GoodPat.j0];exact rfl) ?_;by_cases h:ts.length≤6
  ·refine Ev.ifF (by simp;omega) ?_;rw [decide_eq_true h,Bool.true_and];have:=l2GoodPat_loop ts (by omega) 0 (Nat.zero_le _)
   rw [List.drop_zero] at this;exact this
  ·refine Ev.ifT (by simp;omega) ?_;rw [decide_eq_false h];exact Ev.now _
 ·rw [Bool.not_eq_true] at c;rw [c];refine Ev.step (fun k=>by simp only [spec_l2GoodPat.j0];exact rfl) ?_;exact Ev.ifT (by trivial) (Ev.now _)
end Go.Proofs.YtahambloheoebaaGreatDoor.Pure
namespace Go.Proofs.YtahambloheoebaaGreatDoor.Pure
open Go.RowKit Go.Proofs.YtahambloheoebaaGreatDoor.P Go.Proofs.YtahambloheoebaaGreatDoorW.PrintWords Go.Proofs.YtahambloheoebaaGreatDoorW.PrintLast Go.Proofs.YtahambloheoebaaGreatDoorX
set_option linter.unusedVariables false
set_option linter.unusedSimpArgs false
def exA (es:List S161) (j:Nat):S161:=es.getD j z161
theorem rdE (es:List S161) (j:Nat):rd_T161 es (j:Int)=exA es j:=by simp [rd_T161,exA]
def EG (e:S161):Prop:=(e.f0=0∧goodValueB e.f3=true)∨(e.f0=1∧goodSymB e.f2=true)∨(e.f0=2∧arithB e.f1=true)
structure TInv (es:List S161) (i:Nat) (fs ds:List Int):Prop where
 lf:fs.length=i
 ld:ds.length=i
 at_:∀j,j<i→0≤fs.getD j 0∧fs.getD j 0≤(j:Int)∧0≤ds.getD j 0∧ds.getD j 0≤20∧
   ((exA es j).f0≠2∧fs.getD j 0=(j:Int)∧ds.getD j 0=0∨(exA es j).f0=2∧∃a b:Nat,a<j∧b<j∧(exA es j).f4=(a:Int)∧(exA es j).f5=(b:Int)∧fs.getD j 0=fs.getD a 0∧ds.getD j 0=1+mx (ds.getD a 0) (ds.getD b 0))
 gd:∀j,j<i→EG (exA es j)
theorem first_ev {es:List S161} {i:Nat} {fs ds:List Int} (h:TInv es i fs ds) (hi:i≤es.length):∀j,j<i→Ev (fun k=>spec_l2First.f k es (j:Int)) (fs.getD j 0):=by
 intro j;induction j using Nat.strongRecOn with
 | ind j ih=>
  intro hj;obtain ⟨_,_,_,_,hc⟩:=h.at_ j hj;refine Ev.congr (fun k=>by unfold spec_l2First.f;exact rfl) ?_;refine Ev.step (fun k=>by simp only [spec_l2First.l0,rdE];exact rfl) ?_;refine Ev.ifT (by omega) (Ev.ifT (by omega) ?_);rcases hc with ⟨h1,h2,_⟩|⟨h1,a,b,ha,hb,h4,h5,h6,_⟩
  ·exact Ev.ifF h1 (Ev.as (Ev.now _) h2.symm)
  ·refine Ev.ifT h1 ?_;rw [h4,h6];exact ih a ha (by omega)
theorem mx_ge0 {a b:Int} (ha:0≤a) (hb:0≤b):0≤mx a b:=by unfold mx;split<;>omega
theorem depth_node {es:List S161} (j a b:Nat) (da db:Int) (hj:j<es.length) (h1:(exA es j).f0=2) (h4:(exA es j).f4=(a:Int)) (h5:(exA es j).f5=(b:Int)) (ha0:0≤da) (ha1:da≤20) (hb0:0≤db) (hb1:db≤20)
  (ha:Ev (fun k=>spec_l2Depth.f k es (a:Int)) da) (hb:Ev (fun k=>spec_l2Depth.f k es (b:Int)) db):Ev (fun k=>spec_l2Depth.f k es (j:Int)) (1+mx da db):=by
 refine Ev.step (fun k=>by simp only [spec_l2Depth.f,rdE];exact rfl) ?_;refine Ev.ifT (by omega) (Ev.ifT (by omega) (Ev.ifT h1 ?_));rw [h4,h5];refine Ev.bind ha (Ev.bind hb ?_);refine Ev.ite (fun c=>?_) (fun c=>?_)
 ·refine Ev.as (Ev.now _) ?_;rw [show wrap64 (db+1)=db+1 by unfold wrap64;omega,mx_lt c];omega
 ·refine Ev.as (Ev.now _) ?_;rw [show wrap64 (da+1)=da+1 by unfold wrap64;omega,mx_ge c];omega
theorem depth_leaf {es:List S161} (j:Nat) (hj:j<es.length) (h1:(exA es j).f0≠2):Ev (fun k=>spec_l2Depth.f k es (j:Int)) 0:=by
 refine Ev.step (fun k=>by simp only [spec_l2Depth.f,rdE];exact rfl) ?_;exact Ev.ifT (by omega) (Ev.ifT (by omega) (Ev.ifF h1 (Ev.now _)))
theorem depth_ev {es:List S161} {i:Nat} {fs ds:List Int} (h:TInv es i fs ds) (hi:i≤es.length):∀j,j<i→Ev (fun k=>spec_l2Depth.f k es (j:Int)) (ds.getD j 0):=by
 intro j;induction j using Nat.strongRecOn with
 | ind j ih=>
  intro hj;obtain ⟨_,_,_,_,hc⟩:=h.at_ j hj;rcases hc with ⟨h1,_,h2⟩|⟨h1,a,b,ha,hb,h4,h5,_,h7⟩
  ·rw [h2];exact depth_leaf j (by omega) h1
  ·rw [h7];have ka:=h.at_ a (by omega);have kb:=h.at_ b (by omega);exact depth_node j a b _ _ (by omega) h1 h4 h5 ka.2.2.1 ka.2.2.2.1 kb.2.2.1 kb.2.2.2.1 (ih a ha (by omega)) (ih b hb (by omega))
theorem getD_snoc_lt {xs:List Int} {y:Int} {j:Nat} (h:j<xs.length):(xs++[y]).getD j 0=xs.getD j 0:=by
 rw [List.getD_eq_getElem?_getD,List.getD_eq_getElem?_getD,List.getElem?_append_left h]
theorem getD_snoc_eq {xs:List Int} {y:Int} {j:Nat} (h:j=xs.length):(xs++[y]).getD j 0=y:=by
 subst h;simp
theorem TInv.snoc {es:List S161} {i:Nat} {fs ds:List Int} (h:TInv es i fs ds) (f d:Int)
  (hf0:0≤f) (hf1:f≤(i:Int)) (hd0:0≤d) (hd1:d≤20)
  (hc:(exA es i).f0≠2∧f=(i:Int)∧d=0∨(exA es i).f0=2∧∃a b:Nat,a<i∧b<i∧(exA es i).f4=(a:Int)∧(exA es i).f5=(b:Int)∧f=fs.getD a 0∧d=1+mx (ds.getD a 0) (ds.getD b 0)) (hg:EG (exA es i)):TInv es (i+1) (fs++[f]) (ds++[d]):=by
 have hl:=h.lf;have hd:=h.ld
 refine ⟨by simp [hl],by simp [hd],fun j hj=>?_,fun j hj=>by
  by_cases e:j=i
  ·rw [e];exact hg
  ·exact h.gd j (by omega)⟩
 by_cases e:j=i
 ·subst e;rw [getD_snoc_eq hl.symm,getD_snoc_eq hd.symm];refine ⟨hf0,hf1,hd0,hd1,?_⟩;rcases hc with hc|⟨h1,a,b,ha,hb,h4,h5,h6,h7⟩
  ·exact Or.inl hc
  ·exact Or.inr ⟨h1,a,b,ha,hb,h4,h5,by rw [getD_snoc_lt (by omega)];exact h6,by rw [getD_snoc_lt (by omega),getD_snoc_lt (by omega)];exact h7⟩
 ·have hj2:j<i:=by omega
  rw [getD_snoc_lt (by omega),getD_snoc_lt (by omega)];obtain ⟨a0,a1,a2,a3,hc⟩:=h.at_ j hj2;refine ⟨a0,a1,a2,a3,?_⟩;rcases hc with hc|⟨h1,a,b,ha,hb,h4,h5,h6,h7⟩
  ·exact Or.inl hc
  ·exact Or.inr ⟨h1,a,b,ha,hb,h4,h5,by rw [getD_snoc_lt (by omega)];exact h6,by rw [getD_snoc_lt (by omega),getD_snoc_lt (by omega)];exact h7⟩
def leafB (x:S161):Bool:=x.f1==0&&(x.f4==0&&x.f5==0)
theorem beq_nil (l:List UInt8):(l==([]:List UInt8))=l.isEmpty:=by cases l<;>rfl
theorem onlyC_eq (x:S161) (h:x.f0=0):onlyC x=(leafB x&&x.f2.toList.isEmpty):=by
 unfold onlyC exEq leafB
 rw [h];have e0:((⟨#[]⟩:ByteArray)).toList=[]:=by rw [ByteArray.toList_eq]
 rw [e0,beq_nil];simp only [BEq.rfl,Bool.true_and];cases x.f1==0<;>cases x.f4==0<;>cases x.f5==0<;>cases x.f2.toList.isEmpty<;>rfl
theorem onlyV_eq (x:S161) (h:x.f0=1):onlyV x=(leafB x&&zeroValB x.f3):=by
 unfold onlyV exEq leafB zeroValB
 rw [h];have e0:((⟨#[]⟩:ByteArray)).toList=[]:=by rw [ByteArray.toList_eq]
 rw [e0,beq_nil];simp only [BEq.rfl,Bool.true_and];cases x.f1==0<;>cases x.f4==0<;>cases x.f5==0<;>cases x.f3.f0==0<;>cases x.f3.f1==0<;>cases x.f3.f2.toList.isEmpty<;>rfl
theorem onlyO_eq (x:S161) (h:x.f0=2):onlyO x=(x.f2.toList.isEmpty&&zeroValB x.f3):=by
 unfold onlyO exEq zeroValB
 rw [h];have e0:((⟨#[]⟩:ByteArray)).toList=[]:=by rw [ByteArray.toList_eq]
 rw [e0,beq_nil,beq_nil];simp only [BEq.rfl,Bool.true_and];cases x.f3.f0==0<;>cases x.f3.f1==0<;>cases x.f3.f2.toList.isEmpty<;>cases x.f2.toList.isEmpty<;>rfl
def memB (s:ByteArray) (L:List ByteArray):Bool:=L.any fun x=>s.toList==x.toList
theorem l2Is_loop (s:ByteArray) (L:List ByteArray) (hl:L.length≤9223372036854775807):∀i,i≤L.length→Ev (fun k=>spec_l2Is.l0 k s L (L.length:Int) (i:Int)) (memB s (L.drop i)):=by
 refine up_ind ?_ ?_
 ·rw [List.drop_length];refine Ev.step (fun k=>by simp only [spec_l2Is.l0];exact rfl) ?_;exact Ev.ifF (by omega) (Ev.now _)
 ·intro i hi ih;rw [drop_getD ByteArray.empty hi,memB,List.any_cons];have hrd:rdOf ByteArray.empty L (i:Int)=L.getD i ByteArray.empty:=by simp [rdOf]
  refine Ev.step (fun k=>by simp only [spec_l2Is.l0,wrap_succ hi hl,hrd];exact rfl) ?_;refine Ev.ifT (by omega) (Ev.ifT (by omega) (Ev.ifT (by omega) ?_));refine Ev.ite (fun c=>?_) (fun c=>?_)
  ·rw [beq_iff_eq.2 c,Bool.true_or];exact Ev.now _
  ·rw [beq_eq_false_iff_ne.2 c,Bool.false_or];exact ih
theorem l2Is_some (s:ByteArray) (L:List ByteArray) (hl:L.length≤9223372036854775807):Ev (fun k=>spec_l2Is.f k s L) (memB s L):=by
 refine Ev.congr (fun k=>by unfold spec_l2Is.f;exact rfl) ?_;have:=l2Is_loop s L hl 0 (Nat.zero_le _)
 rw [List.drop_zero] at this;exact this
theorem arith_byte:∀n:Fin 256,decide (0≤Lib.indexByte [43,45,42,47,37] n.val.toUInt8)=([n.val.toUInt8]==[43] || ([n.val.toUInt8]==[45] || ([n.val.toUInt8]==[42] || ([n.val.toUInt8]==[47] || [n.val.toUInt8]==([37]:List UInt8))))):=by
 decide +kernel
theorem ariths_some (c:Int) (h:okByte c):∃L,spec_l2Ariths.f=some L∧Ev (fun k=>spec_l2Is.f k (strOfNums [c]) L) (arithB c):=by
 refine ⟨_,rfl,?_⟩;refine Ev.as (l2Is_some _ _ (by simp)) ?_;obtain ⟨n,rfl⟩:=Int.eq_ofNat_of_zero_le h.1;have hn:n<256:=by have:=h.2;omega
 have e:=arith_byte ⟨n,hn⟩;unfold arithB arIdx
 simp only [Int.toNat_natCast] at e ⊢;rw [e]
 have es:(strOfNums [(n:Int)]).toList=[n.toUInt8]:=by
  rw [ByteArray.toList_eq];simp [strOfNums]
 simp only [memB,List.any_cons,List.any_nil,es];simp [ByteArray.toList_eq]
end Go.Proofs.YtahambloheoebaaGreatDoor.Pure
