/- The row of the law FnExactPrintRules: for every input the call returns true, and each argument reads behind it as it read before; no condition of ours. -/
import Derived.Lib.ConvBytes
import Derived.Laws.AppendOwn
import Derived.Laws.RangeString
import Derived.Lib.OthersKept
import Derived.Lib.DecodeN
import Derived.Lib.TrimU
import Derived.Test.YtahambloheoebaaGreatDoorQPr4
namespace Go.Proofs.YtahambloheoebaaGreatDoor.P
open Go.Proofs.YtahambloheoebaaGreatDoorX
open Go.RowKit Go.Proofs.YtahambloheoebaaGreatDoorW.PrintWords Go.Proofs.YtahambloheoebaaGreatDoorW.PrintLast Go.Proofs.YtahambloheoebaaGreatDoorW.PrintMore
attribute [local go_sem] max2_int min2_int max_two min_two max_three min_three max_four min_four
set_option linter.unusedVariables false
set_option linter.unusedSimpArgs false
attribute [local go_sem high] eqA128
def spec_l2Checked.f (k:Nat) (l0:List (S39)):Option (Bool):=(spec_CheckRules.f k l0).bind fun bt207=>(some (bt207.1==0&&(bt207.2.1==0&&(bt207.2.2==0))))
theorem spec_l2Checked.mono:∀a0 k,LeO (spec_l2Checked.f k a0) (spec_l2Checked.f (k+1) a0):=by
 intro a0 k;unfold spec_l2Checked.f
 repeat' with_reducible first|apply spec_CheckRules.mono|apply LeO.refl|apply LeO.none|refine LeO.ite ?_ ?_|refine LeO.bind ?_ (fun _=>?_)
set_option maxHeartbeats 8000000 in
set_option maxRecDepth 100000 in
theorem spec_l2Checked.calls (k:Nat) (A0:Option Addr) (c0:Nat) (l0:List (S39)) (r:Bool) (w:World) (hr0:Kd.C k39 w A0 l0.length l0) (hc0:l0.length≤c0) (h:spec_l2Checked.f k l0=some r):
  Calls Tryz.prog 37 #[.slice A0 l0.length c0] w fun e w'=>e=.returned (.bool r)∧Below w.heap.size w w':=by
 have hu128:=Tryz.underlying128;have HR0:=a_ hr0;have HC0:=a_ hc0;clear hr0 hc0;have HB:=a_ (Below.refl w.heap.size w);have H:=h;unfold spec_l2Checked.f at H
 clear h;obtain ⟨⟨t207,t208,t209⟩,A2,H⟩:=ob_ H;obtain rfl:=oi_ H;go_enter Tryz.func37,Tryz.ntmps37;go_wp2_with (first|((with_reducible refine gate_callee (f:=79) rfl ?_);refine goesL_ (some 4) rfl rfl Tryz.func79 (by kernel_rfl) rfl #[.slice A0 l0.length c0] rfl mw_ ?_;(with_reducible refine (spec_CheckRules.calls k _ _ l0 t207 t208 t209 _ ?side1 HC0.out A2.out).mono ?_);(case side1=>repeat (first|exact HR0.out|(with_reducible refine Kd.C_alloc ?_ _)|(with_reducible refine Kd.C_drewN ?_ _)|(with_reducible refine Kd.C_drew ?_)));rintro e wx ⟨rfl,hb⟩;refine ⟨_,rfl,?_⟩;replace HB:=ms_ HB hb;(try clear hb)));go_ret;exact ⟨me_,mb_ HB⟩
mutual
def spec_l1Dec.l0:Nat→Int→ByteArray→Option (ByteArray)
 | 0,_,_=>none
 | k+1,x0,x3=>if x0<0 then ((some (([(wrap64 (48-(Int.tmod x0 10))) % 256]:List Int):List Int)).bind fun y210=>(if (strOfNums y210).size+x3.size≤9223372036854775807 then (spec_l1Dec.l0 k (wrap64 (Int.tdiv x0 10)) ((strOfNums y210)++x3)) else (none))) else (if 1+x3.size≤9223372036854775807 then (some ((⟨#[45]⟩:ByteArray)++x3)) else (none))
def spec_l1Dec.l1:Nat→Int→ByteArray→Bool→Option (ByteArray)
 | 0,_,_,_=>none
 | k+1,x0,x4,x5=>if x5=true then ((some (([(wrap64 (48+(Int.tmod x0 10))) % 256]:List Int):List Int)).bind fun y213=>(if (strOfNums y213).size+x4.size≤9223372036854775807 then (spec_l1Dec.l1 k (wrap64 (Int.tdiv x0 10)) ((strOfNums y213)++x4) false) else (none))) else (if x0>0 then ((some (([(wrap64 (48+(Int.tmod x0 10))) % 256]:List Int):List Int)).bind fun y216=>(if (strOfNums y216).size+x4.size≤9223372036854775807 then (spec_l1Dec.l1 k (wrap64 (Int.tdiv x0 10)) ((strOfNums y216)++x4) false) else (none))) else (some x4))
end
def spec_l1Dec.f (k:Nat) (a0:Int):Option (ByteArray):=if a0<0 then (spec_l1Dec.l0 k a0 (⟨#[]⟩:ByteArray)) else (spec_l1Dec.l1 k a0 (⟨#[]⟩:ByteArray) true)
theorem spec_l1Dec.mono_l:∀k,(∀y0 y1,LeO (spec_l1Dec.l0 k y0 y1) (spec_l1Dec.l0 (k+1) y0 y1))∧(∀y0 y1 y2,LeO (spec_l1Dec.l1 k y0 y1 y2) (spec_l1Dec.l1 (k+1) y0 y1 y2))
 | 0=>⟨fun _ _ r h=>by simp [spec_l1Dec.l0] at h,fun _ _ _ r h=>by simp [spec_l1Dec.l1] at h⟩
 | k+1=>by
  obtain ⟨ih0,ih1⟩:=spec_l1Dec.mono_l k;refine ⟨?_,?_⟩
  ·intro y0 y1;unfold spec_l1Dec.l0
   repeat' with_reducible first|apply ih0|apply ih1|apply LeO.refl|apply LeO.none|refine LeO.ite ?_ ?_|refine LeO.bind ?_ (fun _=>?_)
  ·intro y0 y1 y2;unfold spec_l1Dec.l1
   repeat' with_reducible first|apply ih0|apply ih1|apply LeO.refl|apply LeO.none|refine LeO.ite ?_ ?_|refine LeO.bind ?_ (fun _=>?_)
theorem spec_l1Dec.mono:∀a0 k,LeO (spec_l1Dec.f k a0) (spec_l1Dec.f (k+1) a0):=by
 intro a0 k;obtain ⟨ih0,ih1⟩:=spec_l1Dec.mono_l k;unfold spec_l1Dec.f
 repeat' with_reducible first|apply ih0|apply ih1|apply LeO.refl|apply LeO.none|refine LeO.ite ?_ ?_|refine LeO.bind ?_ (fun _=>?_)
set_option maxHeartbeats 8000000 in
set_option maxRecDepth 100000 in
theorem spec_l1Dec.calls (k:Nat) (a0:Int) (r:ByteArray) (w:World) (h:spec_l1Dec.f k a0=some r):
  Calls Tryz.prog 38 #[.int .i64 a0] w fun e w'=>e=.returned (.string r)∧Below w.heap.size w w':=by
 have HB:=a_ (Below.refl w.heap.size w);have H:=h;unfold spec_l1Dec.f at H
 clear h;by_cases c2:a0<0
 ·rw [if_pos c2] at H;have c2b0:=ct_ c2;clear c2;have H':=a_ H;clear H;go_enter Tryz.func38,Tryz.ntmps38;go_wp2;go_loopg [0,3] k (fun kq v0 v3 w'=>∃(x0_1:Int) (x3_1:ByteArray),v0=.int .i64 x0_1∧v3=.string x3_1∧Aside0 (spec_l1Dec.l0 kq x0_1 x3_1=some r)∧Aside0 (kq≤k)∧Aside0 (Below w.heap.size w w'))
  case atStart=>exact ⟨(a0),((⟨#[]⟩:ByteArray)),mq_,mq_,H',⟨Nat.le_refl _⟩,⟨mb_ HB⟩⟩
  clear H';(try clear c2b0);obtain ⟨x0_1,x3_1,rfl,rfl,HA,HK1,HB⟩:=hrel;obtain _|k1:=gk
  ·exact absurd HA.out (by simp [spec_l1Dec.l0])
  have H:=HA.out;clear HA;simp only [spec_l1Dec.l0] at H;by_cases c3:x0_1<0
  ·rw [if_pos c3] at H;have c3b0:=ct_ c3;clear c3;obtain ⟨y210,hy210⟩:∃y_:List Int,y_=(([(wrap64 (48-(Int.tmod x0_1 10))) % 256]:List Int)):=⟨_,rfl⟩;rw [←hy210] at H;(try rw [Option.bind_some] at H);have Ny210:=a_ hy210;clear hy210;by_cases c4:(strOfNums y210).size+x3_1.size≤9223372036854775807
   case neg=>
    rw [if_neg c4] at H;cases H
   rw [if_pos c4] at H;have c4b0:=eq_true c4;have c4b1:=ct_ c4;try have c4b2:(9223372036854775807<(strOfNums y210).size+x3_1.size)=False:=eq_false (Nat.not_lt.2 c4)
   have H':=a_ H;clear H;go_wp2_with (first|((with_reducible refine gate_dst (N:=16) rfl ?_);refine Kd.R_lit (Kd.int .u8) _ 5 ?hg (N:=16) ?hd (xs:=([(wrap64 (48-(Int.tmod x0_1 10))) % 256]:List Int)) (inner:=[.int .u8 ((wrap64 (48-(Int.tmod x0_1 10))) % 256)]) (ok:=fun _=>True) (okp:=fun _=>True) ?hr ?hp (fun _ hk=>hk) trivial (Below.refl _ _) (Nat.le_refl _) (by simp) ?_;(case hd=>rfl);(case hg=>rfl);(case hr=>first|(go_simp;done)|(go_simp;rfl));(case hp=>exact (Reps.one (show Kd.M (Kd.int .u8) _ _ _ ((wrap64 (48-(Int.tmod x0_1 10))) % 256) [.int .u8 ((wrap64 (48-(Int.tmod x0_1 10))) % 256)] from rfl) (Reps.none _ _)));intro v211 wx ho6 hb hg_ hnew_;clear hg_ hnew_;(first|rw [←Ny210.out] at ho6|(simp only [Int.reduceToNat] at ho6;rw [←Ny210.out] at ho6));have HO212:=a_ (Kd.R_lower ho6 (below_size (mb_ HB)));replace HB:=ms_ HB hb;clear hb ho6;have hcv7:=own_string (P:=Tryz.prog) Tryz.underlying22 Tryz.underlying5 Tryz.underlying9 (Kd.own_of_R HO212.out)));go_roundg k1
   case measure=>
    have:=HK1.out
    omega
   case rel=>exact ⟨(wrap64 (Int.tdiv x0_1 10)),((strOfNums y210)++x3_1),mq_,mq_,H',⟨by have:=HK1.out;omega⟩,⟨mb_ HB⟩⟩
  ·rw [if_neg c3] at H;have c3b0:=cf_ c3;clear c3;by_cases c8:1+x3_1.size≤9223372036854775807
   case neg=>
    rw [if_neg c8] at H;cases H
   rw [if_pos c8] at H;have c8b0:=eq_true c8;have c8b1:=ct_ c8;try have c8b2:(9223372036854775807<1+x3_1.size)=False:=eq_false (Nat.not_lt.2 c8)
   obtain rfl:=oi_ H;go_wp2;go_ret;exact ⟨me_,mb_ HB⟩
 ·rw [if_neg c2] at H;have c2b0:=cf_ c2;clear c2;have H':=a_ H;clear H;go_enter Tryz.func38,Tryz.ntmps38;go_wp2;go_loopg [0,4,5] k (fun kq v0 v4 v5 w'=>∃(x0_1:Int) (x4_1:ByteArray) (x5_1:Bool),v0=.int .i64 x0_1∧v4=.string x4_1∧v5=.bool x5_1∧Aside0 (spec_l1Dec.l1 kq x0_1 x4_1 x5_1=some r)∧Aside0 (kq≤k)∧Aside0 (Below w.heap.size w w'))
  case atStart=>exact ⟨(a0),((⟨#[]⟩:ByteArray)),(true),mq_,mq_,mq_,H',⟨Nat.le_refl _⟩,⟨mb_ HB⟩⟩
  clear H';(try clear c2b0);obtain ⟨x0_1,x4_1,x5_1,rfl,rfl,rfl,HA,HK1,HB⟩:=hrel;obtain _|k1:=gk
  ·exact absurd HA.out (by simp [spec_l1Dec.l1])
  have H:=HA.out;clear HA;simp only [spec_l1Dec.l1] at H;by_cases c9:x5_1=true
  ·subst c9;rw [if_pos rfl] at H;obtain ⟨y213,hy213⟩:∃y_:List Int,y_=(([(wrap64 (48+(Int.tmod x0_1 10))) % 256]:List Int)):=⟨_,rfl⟩;rw [←hy213] at H;(try rw [Option.bind_some] at H);have Ny213:=a_ hy213;clear hy213;by_cases c10:(strOfNums y213).size+x4_1.size≤9223372036854775807
   case neg=>
    rw [if_neg c10] at H;cases H
   rw [if_pos c10] at H;have c10b0:=eq_true c10;have c10b1:=ct_ c10;try have c10b2:(9223372036854775807<(strOfNums y213).size+x4_1.size)=False:=eq_false (Nat.not_lt.2 c10)
   have H':=a_ H;clear H;go_wp2_with (first|((with_reducible refine gate_dst (N:=33) rfl ?_);refine Kd.R_lit (Kd.int .u8) _ 5 ?hg (N:=33) ?hd (xs:=([(wrap64 (48+(Int.tmod x0_1 10))) % 256]:List Int)) (inner:=[.int .u8 ((wrap64 (48+(Int.tmod x0_1 10))) % 256)]) (ok:=fun _=>True) (okp:=fun _=>True) ?hr ?hp (fun _ hk=>hk) trivial (Below.refl _ _) (Nat.le_refl _) (by simp) ?_;(case hd=>rfl);(case hg=>rfl);(case hr=>first|(go_simp;done)|(go_simp;rfl));(case hp=>exact (Reps.one (show Kd.M (Kd.int .u8) _ _ _ ((wrap64 (48+(Int.tmod x0_1 10))) % 256) [.int .u8 ((wrap64 (48+(Int.tmod x0_1 10))) % 256)] from rfl) (Reps.none _ _)));intro v214 wx ho12 hb hg_ hnew_;clear hg_ hnew_;(first|rw [←Ny213.out] at ho12|(simp only [Int.reduceToNat] at ho12;rw [←Ny213.out] at ho12));have HO215:=a_ (Kd.R_lower ho12 (below_size (mb_ HB)));replace HB:=ms_ HB hb;clear hb ho12;have hcv13:=own_string (P:=Tryz.prog) Tryz.underlying22 Tryz.underlying5 Tryz.underlying9 (Kd.own_of_R HO215.out)));go_roundg k1
   case measure=>
    have:=HK1.out
    omega
   case rel=>exact ⟨(wrap64 (Int.tdiv x0_1 10)),((strOfNums y213)++x4_1),(false),mq_,mq_,mq_,H',⟨by have:=HK1.out;omega⟩,⟨mb_ HB⟩⟩
  ·replace c9:=Bool.eq_false_iff.mpr c9;subst c9;rw [if_neg (show ¬(false=true) by decide)] at H;by_cases c14:x0_1>0
   ·rw [if_pos c14] at H;have c14b0:=ct_ c14;clear c14;obtain ⟨y216,hy216⟩:∃y_:List Int,y_=(([(wrap64 (48+(Int.tmod x0_1 10))) % 256]:List Int)):=⟨_,rfl⟩;rw [←hy216] at H;(try rw [Option.bind_some] at H);have Ny216:=a_ hy216;clear hy216;by_cases c15:(strOfNums y216).size+x4_1.size≤9223372036854775807
    case neg=>
     rw [if_neg c15] at H;cases H
    rw [if_pos c15] at H;have c15b0:=eq_true c15;have c15b1:=ct_ c15;try have c15b2:(9223372036854775807<(strOfNums y216).size+x4_1.size)=False:=eq_false (Nat.not_lt.2 c15)
    have H':=a_ H;clear H;go_wp2_with (first|((with_reducible refine gate_dst (N:=33) rfl ?_);refine Kd.R_lit (Kd.int .u8) _ 5 ?hg (N:=33) ?hd (xs:=([(wrap64 (48+(Int.tmod x0_1 10))) % 256]:List Int)) (inner:=[.int .u8 ((wrap64 (48+(Int.tmod x0_1 10))) % 256)]) (ok:=fun _=>True) (okp:=fun _=>True) ?hr ?hp (fun _ hk=>hk) trivial (Below.refl _ _) (Nat.le_refl _) (by simp) ?_;(case hd=>rfl);(case hg=>rfl);(case hr=>first|(go_simp;done)|(go_simp;rfl));(case hp=>exact (Reps.one (show Kd.M (Kd.int .u8) _ _ _ ((wrap64 (48+(Int.tmod x0_1 10))) % 256) [.int .u8 ((wrap64 (48+(Int.tmod x0_1 10))) % 256)] from rfl) (Reps.none _ _)));intro v217 wx ho17 hb hg_ hnew_;clear hg_ hnew_;(first|rw [←Ny216.out] at ho17|(simp only [Int.reduceToNat] at ho17;rw [←Ny216.out] at ho17));have HO218:=a_ (Kd.R_lower ho17 (below_size (mb_ HB)));replace HB:=ms_ HB hb;clear hb ho17;have hcv18:=own_string (P:=Tryz.prog) Tryz.underlying22 Tryz.underlying5 Tryz.underlying9 (Kd.own_of_R HO218.out)));go_roundg k1
    case measure=>
     have:=HK1.out
     omega
    case rel=>exact ⟨(wrap64 (Int.tdiv x0_1 10)),((strOfNums y216)++x4_1),(false),mq_,mq_,mq_,H',⟨by have:=HK1.out;omega⟩,⟨mb_ HB⟩⟩
   ·rw [if_neg c14] at H;have c14b0:=cf_ c14;clear c14;obtain rfl:=oi_ H;go_wp2;go_ret;exact ⟨me_,mb_ HB⟩
def spec_l2Val.f (k:Nat) (a0_0:Int) (a0_1:Int) (a0_2:ByteArray):Option (ByteArray):=if a0_0=1 then (some a0_2) else ((spec_l1Dec.f k a0_1).bind fun t220=>(some t220))
theorem spec_l2Val.mono:∀a0 a1 a2 k,LeO (spec_l2Val.f k a0 a1 a2) (spec_l2Val.f (k+1) a0 a1 a2):=by
 intro a0 a1 a2 k;unfold spec_l2Val.f
 repeat' with_reducible first|apply spec_l1Dec.mono|apply LeO.refl|apply LeO.none|refine LeO.ite ?_ ?_|refine LeO.bind ?_ (fun _=>?_)
theorem ub26_0 {p:Prop} (h:p:=by
 obtain rfl:=oi_ H;go_enter Tryz.func80,Tryz.ntmps80;go_wp2_with (first|((with_reducible refine gate_dst (N:=1) rfl ?_);refine bh_ 1 #[.int .i64 a0_0,.int .i64 a0_1,.string a0_2] 80 HB ?_;intro gb219 hg wx BK219 GE219 hb;replace HB:=ms_ HB hb;clear hb hg;replace hz219:=cz3 BK219)|((with_reducible refine gate_callee (f:=38) rfl ?_);refine goesL_ (some 10) rfl rfl Tryz.func38 (by kernel_rfl) rfl #[.int .i64 a0_1] rfl mw_ ?_;(with_reducible refine (spec_l1Dec.calls k a0_1 t220 _ A5.out).mono ?_);rintro e wx ⟨rfl,hb⟩;refine ⟨_,rfl,?_⟩;replace BK219:=mk_ BK219 hb;replace HB:=ms_ HB hb;(try clear hb)));go_ret;exact ⟨me_,mb_ HB⟩):p:=h
set_option maxHeartbeats 8000000 in
set_option maxRecDepth 100000 in
theorem spec_l2Val.calls (k:Nat) (a0_0:Int) (a0_1:Int) (a0_2:ByteArray) (r:ByteArray) (w:World) (h:spec_l2Val.f k a0_0 a0_1 a0_2=some r):
  Calls Tryz.prog 80 #[.agg #[.int .i64 a0_0,.int .i64 a0_1,.string a0_2]] w fun e w'=>e=.returned (.string r)∧Below w.heap.size w w':=by
 have hu80:=Tryz.underlying80;have HB:=a_ (Below.refl w.heap.size w);have H:(if a0_0=1 then (some a0_2) else ((spec_l1Dec.f k a0_1).bind fun t220=>(some t220)))=some r:=h
 clear h;by_cases c2:a0_0=1
 ·rw [if_pos c2] at H;obtain ⟨c2b0,c2b1⟩:=bq_ c2;clear c2;exact ub26_0
 ·rw [if_neg c2] at H;obtain ⟨c2b0,c2b1⟩:=bn_ c2;obtain ⟨t220,A5,H⟩:=ob_ H;exact ub26_0
def spec_l2Tests.f  : Option (List ByteArray):=some (([(⟨#[61]⟩:ByteArray),(⟨#[33,61]⟩:ByteArray),(⟨#[60]⟩:ByteArray),(⟨#[62]⟩:ByteArray),(⟨#[60,61]⟩:ByteArray),(⟨#[62,61]⟩:ByteArray)]:List ByteArray))
set_option maxHeartbeats 8000000 in
set_option maxRecDepth 100000 in
theorem spec_l2Tests.calls  (r:List ByteArray) (w:World) (h:spec_l2Tests.f  = some r):
  Calls Tryz.prog 81 #[] w fun e w'=>∃v0_:Value,e=.returned (v0_)∧Kd.R Kd.string 9 w' w.heap.size (fun _=>True) v0_ r∧Below w.heap.size w w':=by
 have HB:=a_ (Below.refl w.heap.size w);have H:=h;unfold spec_l2Tests.f at H
 clear h;obtain ⟨y221,hy221⟩:∃y_:List ByteArray,y_=(([(⟨#[61]⟩:ByteArray),(⟨#[33,61]⟩:ByteArray),(⟨#[60]⟩:ByteArray),(⟨#[62]⟩:ByteArray),(⟨#[60,61]⟩:ByteArray),(⟨#[62,61]⟩:ByteArray)]:List ByteArray)):=⟨_,rfl⟩;rw [←hy221] at H;(try rw [Option.bind_some] at H);have Ny221:=a_ hy221;clear hy221;obtain rfl:=oi_ H;go_enter Tryz.func81,Tryz.ntmps81;go_wp2_with (first|((with_reducible refine gate_dst (N:=1) rfl ?_);refine Kd.R_lit Kd.string _ 9 ?hg (N:=1) ?hd (xs:=([(⟨#[61]⟩:ByteArray),(⟨#[33,61]⟩:ByteArray),(⟨#[60]⟩:ByteArray),(⟨#[62]⟩:ByteArray),(⟨#[60,61]⟩:ByteArray),(⟨#[62,61]⟩:ByteArray)]:List ByteArray)) (inner:=[.string (⟨#[61]⟩:ByteArray),.string (⟨#[33,61]⟩:ByteArray),.string (⟨#[60]⟩:ByteArray),.string (⟨#[62]⟩:ByteArray),.string (⟨#[60,61]⟩:ByteArray),.string (⟨#[62,61]⟩:ByteArray)]) (ok:=fun _=>True) (okp:=fun _=>True) ?hr ?hp (fun _ hk=>hk) trivial (Below.refl _ _) (Nat.le_refl _) (by simp) ?_;(case hd=>rfl);(case hg=>rfl);(case hr=>first|(go_simp;done)|(go_simp;rfl));(case hp=>exact (Reps.one (show Kd.M Kd.string _ _ _ (⟨#[61]⟩:ByteArray) [.string (⟨#[61]⟩:ByteArray)] from rfl) (Reps.one (show Kd.M Kd.string _ _ _ (⟨#[33,61]⟩:ByteArray) [.string (⟨#[33,61]⟩:ByteArray)] from rfl) (Reps.one (show Kd.M Kd.string _ _ _ (⟨#[60]⟩:ByteArray) [.string (⟨#[60]⟩:ByteArray)] from rfl) (Reps.one (show Kd.M Kd.string _ _ _ (⟨#[62]⟩:ByteArray) [.string (⟨#[62]⟩:ByteArray)] from rfl) (Reps.one (show Kd.M Kd.string _ _ _ (⟨#[60,61]⟩:ByteArray) [.string (⟨#[60,61]⟩:ByteArray)] from rfl) (Reps.one (show Kd.M Kd.string _ _ _ (⟨#[62,61]⟩:ByteArray) [.string (⟨#[62,61]⟩:ByteArray)] from rfl) (Reps.none _ _))))))));intro v222 wx ho2 hb hg_ hnew_;clear hg_ hnew_;(first|rw [←Ny221.out] at ho2|(simp only [Int.reduceToNat] at ho2;rw [←Ny221.out] at ho2));have HO223:=a_ (Kd.R_lower ho2 (below_size (mb_ HB)));replace HB:=ms_ HB hb;clear hb ho2));go_ret;exact ⟨_,me_,mo_ HO223.out,mb_ HB⟩
end Go.Proofs.YtahambloheoebaaGreatDoor.P
namespace Go.Proofs.YtahambloheoebaaGreatDoor.P
open Go.Proofs.YtahambloheoebaaGreatDoorX
open Go.RowKit Go.Proofs.YtahambloheoebaaGreatDoorW.PrintWords Go.Proofs.YtahambloheoebaaGreatDoorW.PrintLast Go.Proofs.YtahambloheoebaaGreatDoorW.PrintMore
attribute [local go_sem] max2_int min2_int max_two min_two max_three min_three max_four min_four
set_option linter.unusedVariables false
set_option linter.unusedSimpArgs false
open Go.Proofs.YtahambloheoebaaGreatDoorX
def bndW (v:ByteArray) (s:ByteArray):ByteArray:=if s.toList=[] then v else (⟨#[63]⟩:ByteArray)++s
def trmW (v:ByteArray) (k op:Int) (s:ByteArray):ByteArray:=
 if k=1 then v else if k=2 then (⟨#[63]⟩:ByteArray)++s
 else if k=3 then (((⟨#[40]⟩:ByteArray)++tstT op)++(⟨#[32]⟩:ByteArray))++bndW v s++(⟨#[41]⟩:ByteArray) else ⟨#[95]⟩
def spec_l2Term.f (k:Nat) (a0_0 a0_1:Int) (a0_2:ByteArray) (a0_3 a0_4:Int) (a0_5:ByteArray):Option ByteArray:=
 (spec_l2Val.f k a0_3 a0_4 a0_5).bind fun v=>if (a0_0=3→1≤a0_1∧a0_1≤6)∧a0_2.size≤4611686018427387904∧v.size≤4611686018427387904 then some (trmW v a0_0 a0_1 a0_2) else none
theorem spec_l2Term.mono:∀a0 a1 a2 a3 a4 a5 k,LeO (spec_l2Term.f k a0 a1 a2 a3 a4 a5) (spec_l2Term.f (k+1) a0 a1 a2 a3 a4 a5):=by
 intro a0 a1 a2 a3 a4 a5 k;unfold spec_l2Term.f
 exact LeO.bind (spec_l2Val.mono _ _ _ _) (fun _=>LeO.refl _)
theorem l2Tests_at (op:Int) (h0:1≤op) (h1:op≤6):rdOf ByteArray.empty ([(⟨#[61]⟩:ByteArray),(⟨#[33,61]⟩:ByteArray),(⟨#[60]⟩:ByteArray),(⟨#[62]⟩:ByteArray),(⟨#[60,61]⟩:ByteArray),(⟨#[62,61]⟩:ByteArray)]:List ByteArray) (op-1)=tstT op:=by
 have:op=1∨op=2∨op=3∨op=4∨op=5∨op=6:=by omega
 rcases this with h|h|h|h|h|h<;>subst h<;>rfl
theorem ucec_0 {p:Prop} (h:p:=by
 go_enter Tryz.func39,Tryz.ntmps39;go_wp2_with (go_at_call 80;refine (spec_l2Val.calls k v0 v1 v2 v _ HV.out).mono ?_;rintro e_ w1 ⟨rfl,hd⟩;have BN:=a_ (blk_below (blk_new w _) hd);have hz0:w1.cell? ⟨w.heap.size,0,none⟩=some (.int .i64 3):=(blk_cell BN.out 0).trans rfl;have hz1:w1.cell? ⟨w.heap.size,1,none⟩=some (.int .i64 op):=(blk_cell BN.out 1).trans rfl;have hz2:w1.cell? ⟨w.heap.size,2,none⟩=some (.string s):=(blk_cell BN.out 2).trans rfl;replace HB:=a_ (below_step (by repeat (first|exact HB.out|apply below_alloc)) hd);clear hd);go_region_with (go_at_call 81;refine (spec_l2Tests.calls _ _ H81.out).mono ?_;rintro e_ w2 ⟨x_,rfl,hR,hd⟩;obtain ⟨A_,c_,rfl⟩:=Kd.R_slice hR;obtain ⟨ad,q0,q3⟩:=Kd.at_string (Kd.R_reads' hR).2.2 (op-1) z0 z7;cases q0;rw [l2Tests_at op g0 g1] at q3;have q4:w2.cell? (ad.add (op-1).toNat)=some (.string (tstT op)):=q3;have q5:w2.cell? (ad.add (op.toNat-1))=some (.string (tstT op)):=(by have e_:op.toNat-1=(op-1).toNat:=(by omega);rw [e_];exact q4);clear q3;have BN2:=blk_below (g:=w.heap.size) (by repeat (first|exact BN.out|refine blk_drewN ?_ _|refine blk_drew ?_)) hd;have hy1:=(blk_cell BN2 1).trans rfl;have HB2:=a_ (below_step (by repeat (first|exact HB.out|apply below_drew1|apply pw_below_drewN)) hd);clear hR hd BN2)
 all_goals
  go_wp2;go_ret;exact ⟨rfl,by repeat (first|exact HB2.out|apply below_drew1|apply pw_below_drewN|apply below_alloc)⟩):p:=h
set_option maxHeartbeats 8000000 in
set_option maxRecDepth 100000 in
theorem spec_l2Term.walk (k:Nat) (kd op:Int) (s:ByteArray) (v0 v1:Int) (v2 v:ByteArray) (w:World) (hv:spec_l2Val.f k v0 v1 v2=some v) (hop:kd=3→1≤op∧op≤6) (z1:s.size≤4611686018427387904) (z2:v.size≤4611686018427387904):
  Calls Tryz.prog 39 #[.agg #[.int .i64 kd,.int .i64 op,.string s,.int .i64 v0,.int .i64 v1,.string v2]] w fun e w'=>e=.returned (.string (trmW v kd op s))∧Below w.heap.size w w':=by
 have HV:=a_ hv;have hu:=Tryz.underlying86;have hu1:=Tryz.underlying80;have HB:=a_ (Below.refl w.heap.size w);clear hv;by_cases c1:kd=1
 ·subst c1;rw [show trmW v 1 op s=v from rfl];go_enter Tryz.func39,Tryz.ntmps39;go_wp2_with (go_at_call 80;refine (spec_l2Val.calls k v0 v1 v2 v _ HV.out).mono ?_;rintro e w1 ⟨rfl,hd⟩);go_ret;exact ⟨rfl,below_step (by repeat (first|exact HB.out|apply below_alloc)) hd⟩
 have d1:(kd==1)=false:=beq_eq_false_iff_ne.mpr c1
 by_cases c2:kd=2
 ·subst c2;rw [show trmW v 2 op s=(⟨#[63]⟩:ByteArray)++s from rfl];obtain ⟨y1,y2⟩:=bt_le (show 1+s.size≤9223372036854775807 by omega);have y3:(⟨#[63]⟩:ByteArray).size+s.size≤9223372036854775807:=by show 1+s.size≤_;omega
  have y4:=y3;go_enter Tryz.func39,Tryz.ntmps39;go_wp2;go_ret;exact ⟨rfl,by repeat (first|exact HB.out|apply below_alloc)⟩
 have d2:(kd==2)=false:=beq_eq_false_iff_ne.mpr c2
 by_cases c3:kd=3
 ·subst c3;obtain ⟨g0,g1⟩:=hop rfl;have st:=tstT_size op g0 g1;rw [show trmW v 3 op s=(((⟨#[40]⟩:ByteArray)++tstT op)++(⟨#[32]⟩:ByteArray))++bndW v s++(⟨#[41]⟩:ByteArray) from rfl];have m1:((⟨#[40]⟩:ByteArray)++tstT op).size=1+(tstT op).size:=ByteArray.size_append
  have m2:(((⟨#[40]⟩:ByteArray)++tstT op)++(⟨#[32]⟩:ByteArray)).size=1+(tstT op).size+1:=by rw [ByteArray.size_append,m1];rfl
  obtain ⟨y1,y2⟩:=bt_le (show 1+(tstT op).size≤9223372036854775807 by omega);obtain ⟨y3,y4⟩:=bt_le (show ((⟨#[40]⟩:ByteArray)++tstT op).size+1≤9223372036854775807 by omega);have hz8:IntKind.i64.wrap (op-1)=op-1:=IntWalk.i64_in _ (by omega)
  have z0:(0:Int)≤op-1:=by omega
  have z7:op-1<6:=by omega
  have z9:op<7:=by omega
  have H81:=a_ (show spec_l2Tests.f=some _ from rfl);by_cases e:s.toList=[]
  ·have e':s.toList.isEmpty=true:=by rw [e];rfl
   rw [show bndW v s=v by unfold bndW;rw [if_pos e]];have m3:((((⟨#[40]⟩:ByteArray)++tstT op)++(⟨#[32]⟩:ByteArray))++v).size=1+(tstT op).size+1+v.size:=by rw [ByteArray.size_append,m2]
   obtain ⟨y5,y6⟩:=bt_le (show (((⟨#[40]⟩:ByteArray)++tstT op)++(⟨#[32]⟩:ByteArray)).size+v.size≤9223372036854775807 by omega);obtain ⟨y7,y8⟩:=bt_le (show ((((⟨#[40]⟩:ByteArray)++tstT op)++(⟨#[32]⟩:ByteArray))++v).size+1≤9223372036854775807 by omega);exact ucec_0
  ·have e':s.toList.isEmpty=false:=by simpa using e
   rw [show bndW v s=(⟨#[63]⟩:ByteArray)++s by unfold bndW;rw [if_neg e]];have m0:((⟨#[63]⟩:ByteArray)++s).size=1+s.size:=ByteArray.size_append
   have m3:((((⟨#[40]⟩:ByteArray)++tstT op)++(⟨#[32]⟩:ByteArray))++((⟨#[63]⟩:ByteArray)++s)).size=1+(tstT op).size+1+(1+s.size):=by rw [ByteArray.size_append,m2,m0]
   obtain ⟨y5,y6⟩:=bt_le (show (((⟨#[40]⟩:ByteArray)++tstT op)++(⟨#[32]⟩:ByteArray)).size+((⟨#[63]⟩:ByteArray)++s).size≤9223372036854775807 by omega);obtain ⟨y7,y8⟩:=bt_le (show ((((⟨#[40]⟩:ByteArray)++tstT op)++(⟨#[32]⟩:ByteArray))++((⟨#[63]⟩:ByteArray)++s)).size+1≤9223372036854775807 by omega);obtain ⟨y9,y10⟩:=bt_le (show 1+s.size≤9223372036854775807 by omega);exact ucec_0
 have d3:(kd==3)=false:=beq_eq_false_iff_ne.mpr c3
 rw [show trmW v kd op s=⟨#[95]⟩ by unfold trmW;rw [if_neg c1,if_neg c2,if_neg c3]];go_enter Tryz.func39,Tryz.ntmps39;go_wp2;go_ret;exact ⟨rfl,by repeat (first|exact HB.out|apply below_alloc)⟩
theorem spec_l2Term.calls (k:Nat) (a0_0 a0_1:Int) (a0_2:ByteArray) (a0_3 a0_4:Int) (a0_5:ByteArray) (r:ByteArray) (w:World) (h:spec_l2Term.f k a0_0 a0_1 a0_2 a0_3 a0_4 a0_5=some r):
  Calls Tryz.prog 39 #[.agg #[.int .i64 a0_0,.int .i64 a0_1,.string a0_2,.int .i64 a0_3,.int .i64 a0_4,.string a0_5]] w fun e w'=>e=.returned (.string r)∧Below w.heap.size w w':=by
 unfold spec_l2Term.f at h
 obtain ⟨v,hv,h⟩:=Option.bind_eq_some_iff.1 h;split at h
 case isFalse=>cases h
 case isTrue hc=>
 obtain ⟨h1,h2,h3⟩:=hc;have h:=Option.some.inj h;subst h;exact spec_l2Term.walk k a0_0 a0_1 a0_2 a0_3 a0_4 a0_5 v w hv h1 h2 h3
end Go.Proofs.YtahambloheoebaaGreatDoor.P
namespace Go.Proofs.YtahambloheoebaaGreatDoor.P
open Go.Proofs.YtahambloheoebaaGreatDoorX
open Go.RowKit Go.Proofs.YtahambloheoebaaGreatDoorW.PrintWords Go.Proofs.YtahambloheoebaaGreatDoorW.PrintLast Go.Proofs.YtahambloheoebaaGreatDoorW.PrintMore
attribute [local go_sem] max2_int min2_int max_two min_two max_three min_three max_four min_four
set_option linter.unusedVariables false
set_option linter.unusedSimpArgs false
def spec_l2Expr.f:Nat→List (S161)→Int→Option (ByteArray)
 | 0,_,_=>none
 | k+1,l0,a1=>if 0≤a1 then (if a1<(l0.length:Int) then (if ((rd_T161 l0 a1).f0)=0 then ((spec_l2Val.f k ((rd_T161 l0 a1).f3.f0) ((rd_T161 l0 a1).f3.f1) ((rd_T161 l0 a1).f3.f2)).bind fun t226=>(some t226)) else (if ((rd_T161 l0 a1).f0)=1 then (if 1+((rd_T161 l0 a1).f2).size≤9223372036854775807 then (some ((⟨#[63]⟩:ByteArray)++((rd_T161 l0 a1).f2))) else (none)) else ((some (([(rd_T161 l0 a1).f1]:List Int):List Int)).bind fun y227=>(if 1+(strOfNums y227).size≤9223372036854775807 then (if ((⟨#[40]⟩:ByteArray)++(strOfNums y227)).size+1≤9223372036854775807 then ((spec_l2Expr.f k l0 ((rd_T161 l0 a1).f4)).bind fun t230=>(if (((⟨#[40]⟩:ByteArray)++(strOfNums y227))++(⟨#[32]⟩:ByteArray)).size+t230.size≤9223372036854775807 then (if ((((⟨#[40]⟩:ByteArray)++(strOfNums y227))++(⟨#[32]⟩:ByteArray))++t230).size+1≤9223372036854775807 then ((spec_l2Expr.f k l0 ((rd_T161 l0 a1).f5)).bind fun t231=>(if (((((⟨#[40]⟩:ByteArray)++(strOfNums y227))++(⟨#[32]⟩:ByteArray))++t230)++(⟨#[32]⟩:ByteArray)).size+t231.size≤9223372036854775807 then (if ((((((⟨#[40]⟩:ByteArray)++(strOfNums y227))++(⟨#[32]⟩:ByteArray))++t230)++(⟨#[32]⟩:ByteArray))++t231).size+1≤9223372036854775807 then (some (((((((⟨#[40]⟩:ByteArray)++(strOfNums y227))++(⟨#[32]⟩:ByteArray))++t230)++(⟨#[32]⟩:ByteArray))++t231)++(⟨#[41]⟩:ByteArray))) else (none)) else (none))) else (none)) else (none))) else (none)) else (none))))) else (none)) else (none)
theorem spec_l2Expr.mono_l:∀k,(∀y0 y1,LeO (spec_l2Expr.f k y0 y1) (spec_l2Expr.f (k+1) y0 y1))
 | 0=>fun _ _ r h=>by simp [spec_l2Expr.f] at h
 | k+1=>by
  have ih0:=spec_l2Expr.mono_l k
  ·intro y0 y1;unfold spec_l2Expr.f
   repeat' with_reducible first|apply ih0|apply spec_l2Val.mono|apply LeO.refl|apply LeO.none|refine LeO.ite ?_ ?_|refine LeO.bind ?_ (fun _=>?_)
theorem spec_l2Expr.mono:∀a0 a1 k,LeO (spec_l2Expr.f k a0 a1) (spec_l2Expr.f (k+1) a0 a1):=by
 intro a0 a1 k;have ih0:=spec_l2Expr.mono_l k;exact ih0 a0 a1
def spec_l2Expr.T7:Bool×List (List Nat×List Nat):=(true,[([],[]),([0],[0]),([1],[1]),([2],[2]),([3],[3]),([4],[4]),([],[]),([],[]),([7],[7]),([6,8],[6,8]),([5,9],[5,9]),([10],[10]),([],[]),([],[]),([13],[13]),([12,14,9],[12,14]),([11,15],[11,15]),([16],[16]),([17,15,0,1,2,3,4,5,6,7,8,9,10,11,12,13,14,15,16,17],[17])])
def spec_l2Expr.B7:List Nat:=[0,1,3,7,15,31,0,0,128,448,1023,2047,0,0,8192,29632,65535,131071,262143]
theorem spec_l2Expr.tab7:rtab .any (opsOf Tryz.f82 7)=spec_l2Expr.T7:=by kernel_rfl
theorem spec_l2Expr.bits7:waitsOk spec_l2Expr.T7.2 spec_l2Expr.B7=true:=by kernel_rfl
abbrev b551_0:Array Bool:=#[f_,f_,f_,f_,f_,f_,f_,f_,f_,f_,f_,f_,f_,f_,f_,f_,f_,f_,f_]
abbrev b551_1:Array Bool:=#[t_,f_,f_,f_,f_,f_,f_,f_,f_,f_,f_,f_,f_,f_,f_,f_,f_,f_,f_]
abbrev b551_2:Array Bool:=#[t_,f_,f_,f_,f_,f_,t_,f_,f_,f_,f_,f_,f_,f_,f_,f_,f_,f_,f_]
abbrev b551_3:Array Bool:=#[t_,f_,f_,f_,f_,f_,t_,t_,f_,f_,f_,f_,f_,f_,f_,f_,f_,f_,f_]
abbrev b551_4:Array Bool:=#[t_,f_,f_,f_,f_,f_,t_,t_,f_,f_,f_,f_,t_,f_,f_,f_,f_,f_,f_]
abbrev b551_5:Array Bool:=#[t_,f_,f_,f_,f_,f_,t_,t_,f_,f_,f_,f_,t_,t_,f_,f_,f_,f_,f_]
abbrev b551_6:Array Bool:=#[t_,t_,f_,f_,f_,f_,t_,t_,f_,f_,f_,f_,t_,t_,f_,f_,f_,f_,f_]
abbrev b551_7:Array Bool:=#[t_,t_,f_,f_,f_,f_,t_,t_,t_,f_,f_,f_,t_,t_,f_,f_,f_,f_,f_]
abbrev b551_8:Array Bool:=#[t_,t_,f_,f_,f_,f_,t_,t_,t_,f_,f_,f_,t_,t_,t_,f_,f_,f_,f_]
abbrev b551_9:Array Bool:=#[t_,t_,t_,t_,t_,t_,t_,t_,t_,t_,t_,t_,t_,t_,t_,t_,f_,f_,f_]
abbrev b551_10:Array Bool:=#[t_,t_,t_,t_,t_,t_,t_,t_,t_,t_,t_,t_,t_,t_,t_,f_,f_,f_,f_]
abbrev b551_11:Array Bool:=#[t_,t_,t_,f_,f_,f_,t_,t_,t_,t_,f_,f_,t_,t_,t_,t_,f_,f_,f_]
abbrev b551_12:Array Bool:=#[t_,t_,t_,t_,t_,t_,t_,t_,t_,f_,f_,f_,t_,t_,t_,f_,f_,f_,f_]
abbrev b551_13:Array Bool:=#[t_,t_,t_,f_,f_,f_,t_,t_,t_,t_,f_,f_,t_,t_,t_,f_,f_,f_,f_]
abbrev b551_14:Array Bool:=#[t_,t_,f_,f_,f_,f_,t_,t_,t_,t_,f_,f_,t_,t_,t_,t_,f_,f_,f_]
abbrev b551_15:Array Bool:=#[t_,t_,t_,f_,f_,f_,t_,t_,t_,f_,f_,f_,t_,t_,t_,f_,f_,f_,f_]
abbrev b551_16:Array Bool:=#[t_,t_,f_,f_,f_,f_,t_,t_,t_,t_,f_,f_,t_,t_,t_,f_,f_,f_,f_]
abbrev b551_17:Array Bool:=#[t_,t_,t_,t_,f_,f_,t_,t_,t_,f_,f_,f_,t_,t_,t_,f_,f_,f_,f_]
abbrev b551_18:Array Bool:=#[t_,t_,t_,t_,t_,f_,t_,t_,t_,f_,f_,f_,t_,t_,t_,f_,f_,f_,f_]
abbrev b551_19:Array Bool:=#[t_,t_,t_,t_,f_,f_,t_,t_,t_,t_,f_,f_,t_,t_,t_,f_,f_,f_,f_]
abbrev b551_20:Array Bool:=#[t_,t_,t_,t_,t_,f_,t_,t_,t_,t_,f_,f_,t_,t_,t_,f_,f_,f_,f_]
abbrev b551_21:Array Bool:=#[t_,t_,t_,t_,t_,t_,t_,t_,t_,t_,f_,f_,t_,t_,t_,f_,f_,f_,f_]
abbrev b551_22:Array Bool:=#[t_,t_,t_,t_,t_,t_,t_,t_,t_,t_,t_,f_,t_,t_,t_,f_,f_,f_,f_]
abbrev b551_23:Array Bool:=#[t_,t_,t_,t_,f_,f_,t_,t_,t_,t_,f_,f_,t_,t_,t_,t_,f_,f_,f_]
abbrev b551_24:Array Bool:=#[t_,t_,t_,t_,t_,f_,t_,t_,t_,t_,f_,f_,t_,t_,t_,t_,f_,f_,f_]
abbrev b551_25:Array Bool:=#[t_,t_,t_,t_,t_,t_,t_,t_,t_,t_,f_,f_,t_,t_,t_,t_,f_,f_,f_]
abbrev b551_26:Array Bool:=#[t_,t_,t_,t_,t_,t_,t_,t_,t_,t_,t_,f_,t_,t_,t_,t_,f_,f_,f_]
abbrev b551_27:Array Bool:=#[t_,t_,t_,t_,t_,t_,t_,t_,t_,t_,t_,t_,t_,t_,t_,t_,t_,f_,f_]
abbrev b551_28:Array Bool:=#[t_,t_,t_,t_,t_,t_,t_,t_,t_,t_,t_,t_,t_,t_,t_,t_,t_,t_,f_]
abbrev b551_29:Array Bool:=#[t_,t_,t_,t_,t_,t_,t_,t_,t_,t_,t_,t_,t_,t_,t_,t_,t_,t_,t_]
theorem u551_1 {p:Prop} (h:p:=by
 simp only [putAll,Act.put,ps_];rfl):p:=h
theorem u551_0 {p:Prop} (h:p:=by
 go_wp2_with (first|((with_reducible refine gate_dst (N:=5) rfl ?_);refine bh_ 5 #[.int .i64 0,.int .u8 0,.string (⟨#[]⟩:ByteArray),.int .i64 0,.int .i64 0,.string (⟨#[]⟩:ByteArray),.int .i64 0,.int .i64 0] 161 HB ?_;intro gb225 hg wq0 BK225 GE225 hb;replace HB:=ms_ HB hb;clear hb hg;replace hz225:=cz8 BK225)|((with_reducible refine gate_callee (f:=80) rfl ?_);refine goesL_ (some 16) rfl rfl Tryz.func80 (by kernel_rfl) rfl #[.agg #[.int .i64 ((rd_T161 l0 a1).f3.f0),.int .i64 ((rd_T161 l0 a1).f3.f1),.string ((rd_T161 l0 a1).f3.f2)]] rfl mw_ ?_;(with_reducible refine (spec_l2Val.calls k ((rd_T161 l0 a1).f3.f0) ((rd_T161 l0 a1).f3.f1) ((rd_T161 l0 a1).f3.f2) t226 _ A6.out).mono ?_);rintro e wq1 ⟨rfl,hb⟩;refine ⟨_,rfl,?_⟩;replace BK225:=a_ (blk_below (g:=gb225) (o:=.cells #[.int .i64 ((rd_T161 l0 a1).f0),.int .u8 ((rd_T161 l0 a1).f1),.string ((rd_T161 l0 a1).f2),.int .i64 ((rd_T161 l0 a1).f3.f0),.int .i64 ((rd_T161 l0 a1).f3.f1),.string ((rd_T161 l0 a1).f3.f2),.int .i64 ((rd_T161 l0 a1).f4),.int .i64 ((rd_T161 l0 a1).f5)] 161 (0,0)) (mp_ BK225) hb);replace HB:=ms_ HB hb;(try clear hb)));go_ret;exact ⟨me_,mb_ HB⟩):p:=h
set_option maxHeartbeats 8000000 in
set_option maxRecDepth 100000 in
theorem spec_l2Expr.calls (k:Nat):∀(A0:Option Addr) (c0:Nat) (l0:List (S161)) (a1:Int) (r:ByteArray) (w:World) (hr0:Kd.C k161 w A0 l0.length l0) (hc0:l0.length≤c0) (h:spec_l2Expr.f k l0 a1=some r),
  Calls Tryz.prog 82 #[.slice A0 l0.length c0,.int .i64 a1] w fun e w'=>e=.returned (.string r)∧Below w.heap.size w w':=by
 induction k using Nat.strongRecOn with
 | _ k ih=>
 intro A0 c0 l0 a1 r w hr0 hc0 h;cases k with
 | zero=>exact absurd h (by simp [spec_l2Expr.f])
 | succ k=>
 simp only [spec_l2Expr.f] at h;have hu161:=Tryz.underlying161;have hu80:=Tryz.underlying80;have HR0:=a_ hr0;have HC0:=a_ hc0;clear hr0 hc0;have HB:=a_ (Below.refl w.heap.size w);have H:(if 0≤a1 then (if a1<(l0.length:Int) then (if ((rd_T161 l0 a1).f0)=0 then ((spec_l2Val.f k ((rd_T161 l0 a1).f3.f0) ((rd_T161 l0 a1).f3.f1) ((rd_T161 l0 a1).f3.f2)).bind fun t226=>(some t226)) else (if ((rd_T161 l0 a1).f0)=1 then (if 1+((rd_T161 l0 a1).f2).size≤9223372036854775807 then (some ((⟨#[63]⟩:ByteArray)++((rd_T161 l0 a1).f2))) else (none)) else ((some (([(rd_T161 l0 a1).f1]:List Int):List Int)).bind fun y227=>(if 1+(strOfNums y227).size≤9223372036854775807 then (if ((⟨#[40]⟩:ByteArray)++(strOfNums y227)).size+1≤9223372036854775807 then ((spec_l2Expr.f k l0 ((rd_T161 l0 a1).f4)).bind fun t230=>(if (((⟨#[40]⟩:ByteArray)++(strOfNums y227))++(⟨#[32]⟩:ByteArray)).size+t230.size≤9223372036854775807 then (if ((((⟨#[40]⟩:ByteArray)++(strOfNums y227))++(⟨#[32]⟩:ByteArray))++t230).size+1≤9223372036854775807 then ((spec_l2Expr.f k l0 ((rd_T161 l0 a1).f5)).bind fun t231=>(if (((((⟨#[40]⟩:ByteArray)++(strOfNums y227))++(⟨#[32]⟩:ByteArray))++t230)++(⟨#[32]⟩:ByteArray)).size+t231.size≤9223372036854775807 then (if ((((((⟨#[40]⟩:ByteArray)++(strOfNums y227))++(⟨#[32]⟩:ByteArray))++t230)++(⟨#[32]⟩:ByteArray))++t231).size+1≤9223372036854775807 then (some (((((((⟨#[40]⟩:ByteArray)++(strOfNums y227))++(⟨#[32]⟩:ByteArray))++t230)++(⟨#[32]⟩:ByteArray))++t231)++(⟨#[41]⟩:ByteArray))) else (none)) else (none))) else (none)) else (none))) else (none)) else (none))))) else (none)) else (none))=some r:=h
 clear h;by_cases c3:0≤a1
 case neg=>
  rw [if_neg c3] at H;cases H
 rw [if_pos c3] at H;have c3b0:=ct_ c3;clear c3;by_cases c4:a1<(l0.length:Int)
 case neg=>
  rw [if_neg c4] at H;cases H
 rw [if_pos c4] at H;have c4b0:=ct_ c4;clear c4;have HD:=a_ H;clear H;have p224:0≤(a1:Int):=md_
 have q224:a1<(l0.length:Int):=md_
 obtain ⟨ad224,e224,hx224_0,hx224_1,hx224_2,hx224_3,hx224_4,hx224_5,hx224_6,hx224_7⟩:=at_T161 HR0.out a1 p224 q224;cases e224;replace p224:=eq_true p224;replace q224:=eq_true q224;go_enter Tryz.func82,Tryz.ntmps82;have H:=HD.out;clear HD;by_cases c5:((rd_T161 l0 a1).f0)=0
 ·rw [if_pos c5] at H;obtain ⟨c5b0,c5b1⟩:=bq_ c5;clear c5;obtain ⟨t226,A6,H⟩:=ob_ H;obtain rfl:=oi_ H;(try simp only [c5b0,c5b1]);exact u551_0
 ·rw [if_neg c5] at H;obtain ⟨c5b0,c5b1⟩:=bn_ c5;by_cases c10:((rd_T161 l0 a1).f0)=1
  ·rw [if_pos c10] at H;obtain ⟨c10b0,c10b1⟩:=bq_ c10;clear c10;by_cases c11:1+((rd_T161 l0 a1).f2).size≤9223372036854775807
   case neg=>
    rw [if_neg c11] at H;cases H
   rw [if_pos c11] at H;have c11b0:=eq_true c11;have c11b1:=ct_ c11;try have c11b2:(9223372036854775807<1+((rd_T161 l0 a1).f2).size)=False:=eq_false (Nat.not_lt.2 c11)
   obtain rfl:=oi_ H;(try simp only [c5b0,c5b1,c10b0,c10b1,c11b0,c11b1,c11b2]);exact u551_0
  ·rw [if_neg c10] at H;obtain ⟨c10b0,c10b1⟩:=bn_ c10;obtain ⟨y227,hy227⟩:∃y_:List Int,y_=(([(rd_T161 l0 a1).f1]:List Int)):=⟨_,rfl⟩;rw [←hy227] at H;(try rw [Option.bind_some] at H);have Ny227:=a_ hy227;clear hy227;by_cases c14:1+(strOfNums y227).size≤9223372036854775807
   case neg=>
    rw [if_neg c14] at H;cases H
   rw [if_pos c14] at H;have c14b0:=eq_true c14;have c14b1:=ct_ c14;try have c14b2:(9223372036854775807<1+(strOfNums y227).size)=False:=eq_false (Nat.not_lt.2 c14)
   by_cases c15:((⟨#[40]⟩:ByteArray)++(strOfNums y227)).size+1≤9223372036854775807
   case neg=>
    rw [if_neg c15] at H;cases H
   rw [if_pos c15] at H;have c15b0:=eq_true c15;have c15b1:=ct_ c15;try have c15b2:(9223372036854775807<((⟨#[40]⟩:ByteArray)++(strOfNums y227)).size+1)=False:=eq_false (Nat.not_lt.2 c15)
   try have c15b3:(9223372036854775807<1+(strOfNums y227).size+1)=False:=eq_false (by have e0_:((⟨#[40]⟩:ByteArray)++(strOfNums y227)).size=1+(strOfNums y227).size:=by { simp only [ByteArray.size_append];first|rfl|omega };omega)
   obtain ⟨t230,A16,H⟩:=ob_ H;by_cases c17:(((⟨#[40]⟩:ByteArray)++(strOfNums y227))++(⟨#[32]⟩:ByteArray)).size+t230.size≤9223372036854775807
   case neg=>
    rw [if_neg c17] at H;cases H
   rw [if_pos c17] at H;have c17b0:=eq_true c17;have c17b1:=ct_ c17;try have c17b2:(9223372036854775807<(((⟨#[40]⟩:ByteArray)++(strOfNums y227))++(⟨#[32]⟩:ByteArray)).size+t230.size)=False:=eq_false (Nat.not_lt.2 c17)
   try have c17b3:(9223372036854775807<1+(strOfNums y227).size+1+t230.size)=False:=eq_false (by have e0_:(((⟨#[40]⟩:ByteArray)++(strOfNums y227))++(⟨#[32]⟩:ByteArray)).size=1+(strOfNums y227).size+1:=by { simp only [ByteArray.size_append];first|rfl|omega };omega)
   by_cases c18:((((⟨#[40]⟩:ByteArray)++(strOfNums y227))++(⟨#[32]⟩:ByteArray))++t230).size+1≤9223372036854775807
   case neg=>
    rw [if_neg c18] at H;cases H
   rw [if_pos c18] at H;have c18b0:=eq_true c18;have c18b1:=ct_ c18;try have c18b2:(9223372036854775807<((((⟨#[40]⟩:ByteArray)++(strOfNums y227))++(⟨#[32]⟩:ByteArray))++t230).size+1)=False:=eq_false (Nat.not_lt.2 c18)
   try have c18b3:(9223372036854775807<1+(strOfNums y227).size+1+t230.size+1)=False:=eq_false (by have e0_:((((⟨#[40]⟩:ByteArray)++(strOfNums y227))++(⟨#[32]⟩:ByteArray))++t230).size=1+(strOfNums y227).size+1+t230.size:=by { simp only [ByteArray.size_append];first|rfl|omega };omega)
   obtain ⟨t231,A19,H⟩:=ob_ H;by_cases c20:(((((⟨#[40]⟩:ByteArray)++(strOfNums y227))++(⟨#[32]⟩:ByteArray))++t230)++(⟨#[32]⟩:ByteArray)).size+t231.size≤9223372036854775807
   case neg=>
    rw [if_neg c20] at H;cases H
   rw [if_pos c20] at H;have c20b0:=eq_true c20;have c20b1:=ct_ c20;try have c20b2:(9223372036854775807<(((((⟨#[40]⟩:ByteArray)++(strOfNums y227))++(⟨#[32]⟩:ByteArray))++t230)++(⟨#[32]⟩:ByteArray)).size+t231.size)=False:=eq_false (Nat.not_lt.2 c20)
   try have c20b3:(9223372036854775807<1+(strOfNums y227).size+1+t230.size+1+t231.size)=False:=eq_false (by have e0_:(((((⟨#[40]⟩:ByteArray)++(strOfNums y227))++(⟨#[32]⟩:ByteArray))++t230)++(⟨#[32]⟩:ByteArray)).size=1+(strOfNums y227).size+1+t230.size+1:=by { simp only [ByteArray.size_append];first|rfl|omega };omega)
   by_cases c21:((((((⟨#[40]⟩:ByteArray)++(strOfNums y227))++(⟨#[32]⟩:ByteArray))++t230)++(⟨#[32]⟩:ByteArray))++t231).size+1≤9223372036854775807
   case neg=>
    rw [if_neg c21] at H;cases H
   rw [if_pos c21] at H;have c21b0:=eq_true c21;have c21b1:=ct_ c21;try have c21b2:(9223372036854775807<((((((⟨#[40]⟩:ByteArray)++(strOfNums y227))++(⟨#[32]⟩:ByteArray))++t230)++(⟨#[32]⟩:ByteArray))++t231).size+1)=False:=eq_false (Nat.not_lt.2 c21)
   try have c21b3:(9223372036854775807<1+(strOfNums y227).size+1+t230.size+1+t231.size+1)=False:=eq_false (by have e0_:((((((⟨#[40]⟩:ByteArray)++(strOfNums y227))++(⟨#[32]⟩:ByteArray))++t230)++(⟨#[32]⟩:ByteArray))++t231).size=1+(strOfNums y227).size+1+t230.size+1+t231.size:=by { simp only [ByteArray.size_append];first|rfl|omega };omega)
   obtain rfl:=oi_ H;(try simp only [c5b0,c5b1,c10b0,c10b1,c14b0,c14b1,c14b2,c15b0,c15b1,c15b2,c15b3,c17b0,c17b1,c17b2,c17b3,c18b0,c18b1,c18b2,c18b3,c20b0,c20b1,c20b2,c20b3,c21b0,c21b1,c21b2,c21b3]);try go_wp2_with (first|((with_reducible refine gate_dst (N:=5) rfl ?_);refine bh_ 5 #[.int .i64 0,.int .u8 0,.string (⟨#[]⟩:ByteArray),.int .i64 0,.int .i64 0,.string (⟨#[]⟩:ByteArray),.int .i64 0,.int .i64 0] 161 HB ?_;intro gb225 hg wq0 BK225 GE225 hb;replace HB:=ms_ HB hb;clear hb hg;replace hz225:=cz8 BK225))
   have n0_:Aside0 (((((((((wq0.setCell ⟨gb225,0,none⟩ (.int .i64 ((rd_T161 l0 a1).f0))).setCell ⟨gb225,1,none⟩ (.int .u8 ((rd_T161 l0 a1).f1))).setCell ⟨gb225,2,none⟩ (.string ((rd_T161 l0 a1).f2))).setCell ⟨gb225,3,none⟩ (.int .i64 ((rd_T161 l0 a1).f3.f0))).setCell ⟨gb225,4,none⟩ (.int .i64 ((rd_T161 l0 a1).f3.f1))).setCell ⟨gb225,5,none⟩ (.string ((rd_T161 l0 a1).f3.f2))).setCell ⟨gb225,6,none⟩ (.int .i64 ((rd_T161 l0 a1).f4))).setCell ⟨gb225,7,none⟩ (.int .i64 ((rd_T161 l0 a1).f5))).heap[gb225]?=some (.cells #[.int .i64 ((rd_T161 l0 a1).f0),.int .u8 ((rd_T161 l0 a1).f1),.string ((rd_T161 l0 a1).f2),.int .i64 ((rd_T161 l0 a1).f3.f0),.int .i64 ((rd_T161 l0 a1).f3.f1),.string ((rd_T161 l0 a1).f3.f2),.int .i64 ((rd_T161 l0 a1).f4),.int .i64 ((rd_T161 l0 a1).f5)] 161 (0,0))):=⟨mp_ BK225⟩
   have n1_:Aside0 (Below w.heap.size w ((((((((wq0.setCell ⟨gb225,0,none⟩ (.int .i64 ((rd_T161 l0 a1).f0))).setCell ⟨gb225,1,none⟩ (.int .u8 ((rd_T161 l0 a1).f1))).setCell ⟨gb225,2,none⟩ (.string ((rd_T161 l0 a1).f2))).setCell ⟨gb225,3,none⟩ (.int .i64 ((rd_T161 l0 a1).f3.f0))).setCell ⟨gb225,4,none⟩ (.int .i64 ((rd_T161 l0 a1).f3.f1))).setCell ⟨gb225,5,none⟩ (.string ((rd_T161 l0 a1).f3.f2))).setCell ⟨gb225,6,none⟩ (.int .i64 ((rd_T161 l0 a1).f4))).setCell ⟨gb225,7,none⟩ (.int .i64 ((rd_T161 l0 a1).f5)))):=⟨mb_ HB⟩
   (try clear BK225);(try clear HB);generalize ((((((((wq0.setCell ⟨gb225,0,none⟩ (.int .i64 ((rd_T161 l0 a1).f0))).setCell ⟨gb225,1,none⟩ (.int .u8 ((rd_T161 l0 a1).f1))).setCell ⟨gb225,2,none⟩ (.string ((rd_T161 l0 a1).f2))).setCell ⟨gb225,3,none⟩ (.int .i64 ((rd_T161 l0 a1).f3.f0))).setCell ⟨gb225,4,none⟩ (.int .i64 ((rd_T161 l0 a1).f3.f1))).setCell ⟨gb225,5,none⟩ (.string ((rd_T161 l0 a1).f3.f2))).setCell ⟨gb225,6,none⟩ (.int .i64 ((rd_T161 l0 a1).f4))).setCell ⟨gb225,7,none⟩ (.int .i64 ((rd_T161 l0 a1).f5)))=wq1 at n0_ n1_ ⊢;have BK225:=n0_;have HB:=n1_;clear n0_ n1_;replace BK225:=a_ (blk_drew BK225.out);replace HB:=a_ (below_drew1 HB.out);refine start_ (n:=19) (S:=fun w'=>w'.cell? ⟨gb225,0,none⟩=some (.int .i64 ((rd_T161 l0 a1).f0))∧w'.cell? ⟨gb225,1,none⟩=some (.int .u8 ((rd_T161 l0 a1).f1))∧w'.cell? ⟨gb225,2,none⟩=some (.string ((rd_T161 l0 a1).f2))∧w'.cell? ⟨gb225,3,none⟩=some (.int .i64 ((rd_T161 l0 a1).f3.f0))∧w'.cell? ⟨gb225,4,none⟩=some (.int .i64 ((rd_T161 l0 a1).f3.f1))∧w'.cell? ⟨gb225,5,none⟩=some (.string ((rd_T161 l0 a1).f3.f2))∧w'.cell? ⟨gb225,6,none⟩=some (.int .i64 ((rd_T161 l0 a1).f4))∧w'.cell? ⟨gb225,7,none⟩=some (.int .i64 ((rd_T161 l0 a1).f5))) (ds:=[]) b551_0 (by kernel_rfl) rfl rfl ⟨bk_ BK225 0,bk_ BK225 1,bk_ BK225 2,bk_ BK225 3,bk_ BK225 4,bk_ BK225 5,bk_ BK225 6,bk_ BK225 7⟩ (fun hHeld=>?_);refine with_tabW spec_l2Expr.tab7 spec_l2Expr.bits7 (fun HT_ HW_=>?_);generalize wq1.drew=wq2 at BK225 HB hHeld ⊢;refine pu_ 0 22 b551_1 (any_of HT_.out (by kernel_rfl)) ?_;refine pu_ 6 28 b551_2 (any_of HT_.out (by kernel_rfl)) ?_;refine pu_ 7 29 b551_3 (any_of HT_.out (by kernel_rfl)) ?_;refine pu_ 12 34 b551_4 (any_of HT_.out (by kernel_rfl)) ?_;refine pu_ 13 35 b551_5 (any_of HT_.out (by kernel_rfl)) ?_;refine tk_ 1 23 b551_6 (take_ofW HT_.out HW_.out (by kernel_rfl)) hHeld ?_;refine tk_ 8 30 b551_7 (take_ofW HT_.out HW_.out (by kernel_rfl)) hHeld ?_
   refine tk_ 14 36 b551_8 (take_ofW HT_.out HW_.out (by kernel_rfl)) hHeld ?_;refine join_ (σ:=Value) 3 b551_9 (fun s_=>[(24,s_),(25,.string (strOfNums y227)),(31,.string t230),(37,.string t231),(26,.string ((⟨#[40]⟩:ByteArray)++(strOfNums y227))),(27,.string (((⟨#[40]⟩:ByteArray)++(strOfNums y227))++(⟨#[32]⟩:ByteArray))),(32,.string ((((⟨#[40]⟩:ByteArray)++(strOfNums y227))++(⟨#[32]⟩:ByteArray))++t230)),(33,.string (((((⟨#[40]⟩:ByteArray)++(strOfNums y227))++(⟨#[32]⟩:ByteArray))++t230)++(⟨#[32]⟩:ByteArray)))]) (fun s_ w'=>(w'.cell? ⟨gb225,0,none⟩=some (.int .i64 ((rd_T161 l0 a1).f0))∧w'.cell? ⟨gb225,1,none⟩=some (.int .u8 ((rd_T161 l0 a1).f1))∧w'.cell? ⟨gb225,2,none⟩=some (.string ((rd_T161 l0 a1).f2))∧w'.cell? ⟨gb225,3,none⟩=some (.int .i64 ((rd_T161 l0 a1).f3.f0))∧w'.cell? ⟨gb225,4,none⟩=some (.int .i64 ((rd_T161 l0 a1).f3.f1))∧w'.cell? ⟨gb225,5,none⟩=some (.string ((rd_T161 l0 a1).f3.f2))∧w'.cell? ⟨gb225,6,none⟩=some (.int .i64 ((rd_T161 l0 a1).f4))∧w'.cell? ⟨gb225,7,none⟩=some (.int .i64 ((rd_T161 l0 a1).f5)))∧(Kd.R (Kd.int .u8) 5 w' w.heap.size (fun _=>True) s_ y227)∧(w'.heap[gb225]?=some (.cells #[.int .i64 ((rd_T161 l0 a1).f0),.int .u8 ((rd_T161 l0 a1).f1),.string ((rd_T161 l0 a1).f2),.int .i64 ((rd_T161 l0 a1).f3.f0),.int .i64 ((rd_T161 l0 a1).f3.f1),.string ((rd_T161 l0 a1).f3.f2),.int .i64 ((rd_T161 l0 a1).f4),.int .i64 ((rd_T161 l0 a1).f5)] 161 (0,0)))∧(Below w.heap.size w w')) ?_ ?_;rotate_left
   ·intro hJ2_3_9_15;refine join_ (σ:=Value) 4 b551_10 (fun s_=>[(24,s_),(25,.string (strOfNums y227)),(31,.string t230),(26,.string ((⟨#[40]⟩:ByteArray)++(strOfNums y227))),(27,.string (((⟨#[40]⟩:ByteArray)++(strOfNums y227))++(⟨#[32]⟩:ByteArray))),(32,.string ((((⟨#[40]⟩:ByteArray)++(strOfNums y227))++(⟨#[32]⟩:ByteArray))++t230)),(33,.string (((((⟨#[40]⟩:ByteArray)++(strOfNums y227))++(⟨#[32]⟩:ByteArray))++t230)++(⟨#[32]⟩:ByteArray)))]) (fun s_ w'=>(w'.cell? ⟨gb225,0,none⟩=some (.int .i64 ((rd_T161 l0 a1).f0))∧w'.cell? ⟨gb225,1,none⟩=some (.int .u8 ((rd_T161 l0 a1).f1))∧w'.cell? ⟨gb225,2,none⟩=some (.string ((rd_T161 l0 a1).f2))∧w'.cell? ⟨gb225,3,none⟩=some (.int .i64 ((rd_T161 l0 a1).f3.f0))∧w'.cell? ⟨gb225,4,none⟩=some (.int .i64 ((rd_T161 l0 a1).f3.f1))∧w'.cell? ⟨gb225,5,none⟩=some (.string ((rd_T161 l0 a1).f3.f2))∧w'.cell? ⟨gb225,6,none⟩=some (.int .i64 ((rd_T161 l0 a1).f4))∧w'.cell? ⟨gb225,7,none⟩=some (.int .i64 ((rd_T161 l0 a1).f5)))∧(Kd.R (Kd.int .u8) 5 w' w.heap.size (fun _=>True) s_ y227)∧(w'.heap[gb225]?=some (.cells #[.int .i64 ((rd_T161 l0 a1).f0),.int .u8 ((rd_T161 l0 a1).f1),.string ((rd_T161 l0 a1).f2),.int .i64 ((rd_T161 l0 a1).f3.f0),.int .i64 ((rd_T161 l0 a1).f3.f1),.string ((rd_T161 l0 a1).f3.f2),.int .i64 ((rd_T161 l0 a1).f4),.int .i64 ((rd_T161 l0 a1).f5)] 161 (0,0)))∧(Below w.heap.size w w')) ?_ ?_;rotate_left
    ·intro hJ2_3_9;refine join_ (σ:=Value) 8 b551_11 (fun s_=>[(24,s_),(31,.string t230),(37,.string t231)]) (fun s_ w'=>(w'.cell? ⟨gb225,0,none⟩=some (.int .i64 ((rd_T161 l0 a1).f0))∧w'.cell? ⟨gb225,1,none⟩=some (.int .u8 ((rd_T161 l0 a1).f1))∧w'.cell? ⟨gb225,2,none⟩=some (.string ((rd_T161 l0 a1).f2))∧w'.cell? ⟨gb225,3,none⟩=some (.int .i64 ((rd_T161 l0 a1).f3.f0))∧w'.cell? ⟨gb225,4,none⟩=some (.int .i64 ((rd_T161 l0 a1).f3.f1))∧w'.cell? ⟨gb225,5,none⟩=some (.string ((rd_T161 l0 a1).f3.f2))∧w'.cell? ⟨gb225,6,none⟩=some (.int .i64 ((rd_T161 l0 a1).f4))∧w'.cell? ⟨gb225,7,none⟩=some (.int .i64 ((rd_T161 l0 a1).f5)))∧(Kd.R (Kd.int .u8) 5 w' w.heap.size (fun _=>True) s_ y227)∧(w'.heap[gb225]?=some (.cells #[.int .i64 ((rd_T161 l0 a1).f0),.int .u8 ((rd_T161 l0 a1).f1),.string ((rd_T161 l0 a1).f2),.int .i64 ((rd_T161 l0 a1).f3.f0),.int .i64 ((rd_T161 l0 a1).f3.f1),.string ((rd_T161 l0 a1).f3.f2),.int .i64 ((rd_T161 l0 a1).f4),.int .i64 ((rd_T161 l0 a1).f5)] 161 (0,0)))∧(Below w.heap.size w w')) ?_ ?_;rotate_left
     ·intro hJ2_9_15;refine join_ (σ:=Value) 7 b551_12 (fun s_=>[(24,s_),(25,.string (strOfNums y227)),(26,.string ((⟨#[40]⟩:ByteArray)++(strOfNums y227))),(27,.string (((⟨#[40]⟩:ByteArray)++(strOfNums y227))++(⟨#[32]⟩:ByteArray)))]) (fun s_ w'=>(w'.cell? ⟨gb225,0,none⟩=some (.int .i64 ((rd_T161 l0 a1).f0))∧w'.cell? ⟨gb225,1,none⟩=some (.int .u8 ((rd_T161 l0 a1).f1))∧w'.cell? ⟨gb225,2,none⟩=some (.string ((rd_T161 l0 a1).f2))∧w'.cell? ⟨gb225,3,none⟩=some (.int .i64 ((rd_T161 l0 a1).f3.f0))∧w'.cell? ⟨gb225,4,none⟩=some (.int .i64 ((rd_T161 l0 a1).f3.f1))∧w'.cell? ⟨gb225,5,none⟩=some (.string ((rd_T161 l0 a1).f3.f2))∧w'.cell? ⟨gb225,6,none⟩=some (.int .i64 ((rd_T161 l0 a1).f4))∧w'.cell? ⟨gb225,7,none⟩=some (.int .i64 ((rd_T161 l0 a1).f5)))∧(Kd.R (Kd.int .u8) 5 w' w.heap.size (fun _=>True) s_ y227)∧(w'.heap[gb225]?=some (.cells #[.int .i64 ((rd_T161 l0 a1).f0),.int .u8 ((rd_T161 l0 a1).f1),.string ((rd_T161 l0 a1).f2),.int .i64 ((rd_T161 l0 a1).f3.f0),.int .i64 ((rd_T161 l0 a1).f3.f1),.string ((rd_T161 l0 a1).f3.f2),.int .i64 ((rd_T161 l0 a1).f4),.int .i64 ((rd_T161 l0 a1).f5)] 161 (0,0)))∧(Below w.heap.size w w')) ?_ ?_;rotate_left
      ·intro hJq3;refine join_ (σ:=Value) 9 b551_13 (fun s_=>[(24,s_),(31,.string t230)]) (fun s_ w'=>(w'.cell? ⟨gb225,0,none⟩=some (.int .i64 ((rd_T161 l0 a1).f0))∧w'.cell? ⟨gb225,1,none⟩=some (.int .u8 ((rd_T161 l0 a1).f1))∧w'.cell? ⟨gb225,2,none⟩=some (.string ((rd_T161 l0 a1).f2))∧w'.cell? ⟨gb225,3,none⟩=some (.int .i64 ((rd_T161 l0 a1).f3.f0))∧w'.cell? ⟨gb225,4,none⟩=some (.int .i64 ((rd_T161 l0 a1).f3.f1))∧w'.cell? ⟨gb225,5,none⟩=some (.string ((rd_T161 l0 a1).f3.f2))∧w'.cell? ⟨gb225,6,none⟩=some (.int .i64 ((rd_T161 l0 a1).f4))∧w'.cell? ⟨gb225,7,none⟩=some (.int .i64 ((rd_T161 l0 a1).f5)))∧(Kd.R (Kd.int .u8) 5 w' w.heap.size (fun _=>True) s_ y227)∧(w'.heap[gb225]?=some (.cells #[.int .i64 ((rd_T161 l0 a1).f0),.int .u8 ((rd_T161 l0 a1).f1),.string ((rd_T161 l0 a1).f2),.int .i64 ((rd_T161 l0 a1).f3.f0),.int .i64 ((rd_T161 l0 a1).f3.f1),.string ((rd_T161 l0 a1).f3.f2),.int .i64 ((rd_T161 l0 a1).f4),.int .i64 ((rd_T161 l0 a1).f5)] 161 (0,0)))∧(Below w.heap.size w w')) ?_ ?_;rotate_left
       ·intro hJq4;refine join_ (σ:=Unit) 9 b551_14 (fun s_=>[(31,.string t230),(37,.string t231)]) (fun s_ w'=>(w'.cell? ⟨gb225,0,none⟩=some (.int .i64 ((rd_T161 l0 a1).f0))∧w'.cell? ⟨gb225,1,none⟩=some (.int .u8 ((rd_T161 l0 a1).f1))∧w'.cell? ⟨gb225,2,none⟩=some (.string ((rd_T161 l0 a1).f2))∧w'.cell? ⟨gb225,3,none⟩=some (.int .i64 ((rd_T161 l0 a1).f3.f0))∧w'.cell? ⟨gb225,4,none⟩=some (.int .i64 ((rd_T161 l0 a1).f3.f1))∧w'.cell? ⟨gb225,5,none⟩=some (.string ((rd_T161 l0 a1).f3.f2))∧w'.cell? ⟨gb225,6,none⟩=some (.int .i64 ((rd_T161 l0 a1).f4))∧w'.cell? ⟨gb225,7,none⟩=some (.int .i64 ((rd_T161 l0 a1).f5)))∧(w'.heap[gb225]?=some (.cells #[.int .i64 ((rd_T161 l0 a1).f0),.int .u8 ((rd_T161 l0 a1).f1),.string ((rd_T161 l0 a1).f2),.int .i64 ((rd_T161 l0 a1).f3.f0),.int .i64 ((rd_T161 l0 a1).f3.f1),.string ((rd_T161 l0 a1).f3.f2),.int .i64 ((rd_T161 l0 a1).f4),.int .i64 ((rd_T161 l0 a1).f5)] 161 (0,0)))∧(Below w.heap.size w w')) ?_ ?_;rotate_left
        ·intro hJq5;refine join_ (σ:=Value) 10 b551_15 (fun s_=>[(24,s_)]) (fun s_ w'=>(w'.cell? ⟨gb225,0,none⟩=some (.int .i64 ((rd_T161 l0 a1).f0))∧w'.cell? ⟨gb225,1,none⟩=some (.int .u8 ((rd_T161 l0 a1).f1))∧w'.cell? ⟨gb225,2,none⟩=some (.string ((rd_T161 l0 a1).f2))∧w'.cell? ⟨gb225,3,none⟩=some (.int .i64 ((rd_T161 l0 a1).f3.f0))∧w'.cell? ⟨gb225,4,none⟩=some (.int .i64 ((rd_T161 l0 a1).f3.f1))∧w'.cell? ⟨gb225,5,none⟩=some (.string ((rd_T161 l0 a1).f3.f2))∧w'.cell? ⟨gb225,6,none⟩=some (.int .i64 ((rd_T161 l0 a1).f4))∧w'.cell? ⟨gb225,7,none⟩=some (.int .i64 ((rd_T161 l0 a1).f5)))∧(Kd.R (Kd.int .u8) 5 w' w.heap.size (fun _=>True) s_ y227)∧(w'.heap[gb225]?=some (.cells #[.int .i64 ((rd_T161 l0 a1).f0),.int .u8 ((rd_T161 l0 a1).f1),.string ((rd_T161 l0 a1).f2),.int .i64 ((rd_T161 l0 a1).f3.f0),.int .i64 ((rd_T161 l0 a1).f3.f1),.string ((rd_T161 l0 a1).f3.f2),.int .i64 ((rd_T161 l0 a1).f4),.int .i64 ((rd_T161 l0 a1).f5)] 161 (0,0)))∧(Below w.heap.size w w')) ?_ ?_;rotate_left
         ·intro hJq6;refine join_ (σ:=Unit) 10 b551_16 (fun s_=>[(31,.string t230)]) (fun s_ w'=>(w'.cell? ⟨gb225,0,none⟩=some (.int .i64 ((rd_T161 l0 a1).f0))∧w'.cell? ⟨gb225,1,none⟩=some (.int .u8 ((rd_T161 l0 a1).f1))∧w'.cell? ⟨gb225,2,none⟩=some (.string ((rd_T161 l0 a1).f2))∧w'.cell? ⟨gb225,3,none⟩=some (.int .i64 ((rd_T161 l0 a1).f3.f0))∧w'.cell? ⟨gb225,4,none⟩=some (.int .i64 ((rd_T161 l0 a1).f3.f1))∧w'.cell? ⟨gb225,5,none⟩=some (.string ((rd_T161 l0 a1).f3.f2))∧w'.cell? ⟨gb225,6,none⟩=some (.int .i64 ((rd_T161 l0 a1).f4))∧w'.cell? ⟨gb225,7,none⟩=some (.int .i64 ((rd_T161 l0 a1).f5)))∧(w'.heap[gb225]?=some (.cells #[.int .i64 ((rd_T161 l0 a1).f0),.int .u8 ((rd_T161 l0 a1).f1),.string ((rd_T161 l0 a1).f2),.int .i64 ((rd_T161 l0 a1).f3.f0),.int .i64 ((rd_T161 l0 a1).f3.f1),.string ((rd_T161 l0 a1).f3.f2),.int .i64 ((rd_T161 l0 a1).f4),.int .i64 ((rd_T161 l0 a1).f5)] 161 (0,0)))∧(Below w.heap.size w w')) ?_ ?_;rotate_left
          ·intro hJq7;refine two_ (i:=2) (j:=9) (Ni:=some 24) (Nj:=some 31) b551_15 b551_16 rfl rfl rfl rfl (two_of HT_.out (by kernel_rfl)) (by decide) (by decide) (fun K hK=>?_) (fun K hK=>?_)
           ·skip;refine Kd.R_lit_step (Kd.int .u8) _ 5 ?hg (N:=24) ?hd (xs:=([(rd_T161 l0 a1).f1]:List Int)) (inner:=[.int .u8 ((rd_T161 l0 a1).f1)]) (ok:=fun _=>True) (okp:=fun _=>True) ?hr ?hp (fun _ hk=>hk) trivial (Below.refl _ _) (Nat.le_refl _) (by simp) ?_;(case hd=>rfl);(case hg=>rfl);(case hr=>first|(go_simp;done)|(go_simp;rfl));(case hp=>exact (Reps.one (show Kd.M (Kd.int .u8) _ _ _ ((rd_T161 l0 a1).f1) [.int .u8 ((rd_T161 l0 a1).f1)] from rfl) (Reps.none _ _)));intro vq8 wq9 hoq10 hb hg_ hnew_;clear hg_ hnew_;(first|rw [←Ny227.out] at hoq10|(simp only [Int.reduceToNat] at hoq10;rw [←Ny227.out] at hoq10));have HOq11:=a_ (Kd.R_lower hoq10 (below_size (mb_ HB)));replace BK225:=mk_ BK225 hb;replace HB:=ms_ HB hb;clear hb hoq10;refine hK.out _ _ (bc8 BK225) fun hHeld=>?_
            clear hK K;refine nm_ 24 ?_;exact norm_ (by first|(simp only [putAll,Act.put,ps_];done)|(simp only [putAll,Act.put,ps_];rfl)) (hJq6 (vq8) _ ⟨hHeld,(mo_ HOq11.out),(mc_ BK225),(mb_ HB)⟩)
           ·skip;refine goes_ Tryz.func82 (by kernel_rfl) rfl #[.slice (some ad224) l0.length c0,.int .i64 ((rd_T161 l0 a1).f4)] (by rfl) rfl rfl mw_ ?_;with_reducible refine (ih k (by omega) _ _ l0 ((rd_T161 l0 a1).f4) t230 _ ?side1 ?side2 A16.out).mono ?_
            (case side1=>exact mt_ HR0 HB)
            (case side2=>exact HC0.out)
            rintro e wq9 ⟨rfl,hb⟩;refine ⟨_,rfl,?_⟩;replace BK225:=mk_ BK225 hb;replace HB:=ms_ HB hb;(try clear hb);(try clear hb2);(try clear hk);(try clear hi);refine hK.out _ _ (bc8 BK225) fun hHeld=>?_
            clear hK K;refine nm_ 31 ?_;exact norm_ (by first|(simp only [putAll,Act.put,ps_];done)|(simp only [putAll,Act.put,ps_];rfl)) (hJq7 () _ ⟨hHeld,(mc_ BK225),(mb_ HB)⟩)
          ·skip;rintro _ wq12 ⟨hS_,h0_,h1_⟩;have n0_:Aside0 (wq12.heap[gb225]?=some (.cells #[.int .i64 ((rd_T161 l0 a1).f0),.int .u8 ((rd_T161 l0 a1).f1),.string ((rd_T161 l0 a1).f2),.int .i64 ((rd_T161 l0 a1).f3.f0),.int .i64 ((rd_T161 l0 a1).f3.f1),.string ((rd_T161 l0 a1).f3.f2),.int .i64 ((rd_T161 l0 a1).f4),.int .i64 ((rd_T161 l0 a1).f5)] 161 (0,0))):=⟨h0_⟩
           have n1_:Aside0 (Below w.heap.size w wq12):=⟨h1_⟩
           clear BK225;clear HB;clear h0_ h1_;have BK225:=n0_;have HB:=n1_;clear n0_ n1_;have hHeld:wq12.cell? ⟨gb225,0,none⟩=some (.int .i64 ((rd_T161 l0 a1).f0))∧wq12.cell? ⟨gb225,1,none⟩=some (.int .u8 ((rd_T161 l0 a1).f1))∧wq12.cell? ⟨gb225,2,none⟩=some (.string ((rd_T161 l0 a1).f2))∧wq12.cell? ⟨gb225,3,none⟩=some (.int .i64 ((rd_T161 l0 a1).f3.f0))∧wq12.cell? ⟨gb225,4,none⟩=some (.int .i64 ((rd_T161 l0 a1).f3.f1))∧wq12.cell? ⟨gb225,5,none⟩=some (.string ((rd_T161 l0 a1).f3.f2))∧wq12.cell? ⟨gb225,6,none⟩=some (.int .i64 ((rd_T161 l0 a1).f4))∧wq12.cell? ⟨gb225,7,none⟩=some (.int .i64 ((rd_T161 l0 a1).f5)):=hS_
           refine norm_ (a':=?_) ?_ ?_;rotate_left
           ·exact u551_1
           refine two_ (i:=2) (j:=15) (Ni:=some 24) (Nj:=some 37) b551_13 b551_14 rfl rfl rfl rfl (two_of HT_.out (by kernel_rfl)) (by decide) (by decide) (fun K hK=>?_) (fun K hK=>?_)
           ·skip;refine Kd.R_lit_step (Kd.int .u8) _ 5 ?hg (N:=24) ?hd (xs:=([(rd_T161 l0 a1).f1]:List Int)) (inner:=[.int .u8 ((rd_T161 l0 a1).f1)]) (ok:=fun _=>True) (okp:=fun _=>True) ?hr ?hp (fun _ hk=>hk) trivial (Below.refl _ _) (Nat.le_refl _) (by simp) ?_;(case hd=>rfl);(case hg=>rfl);(case hr=>first|(go_simp;done)|(go_simp;rfl));(case hp=>exact (Reps.one (show Kd.M (Kd.int .u8) _ _ _ ((rd_T161 l0 a1).f1) [.int .u8 ((rd_T161 l0 a1).f1)] from rfl) (Reps.none _ _)));intro vq8 wq13 hoq14 hb hg_ hnew_;clear hg_ hnew_;(first|rw [←Ny227.out] at hoq14|(simp only [Int.reduceToNat] at hoq14;rw [←Ny227.out] at hoq14));have HOq11:=a_ (Kd.R_lower hoq14 (below_size (mb_ HB)));replace BK225:=mk_ BK225 hb;replace HB:=ms_ HB hb;clear hb hoq14;refine hK.out _ _ (bc8 BK225) fun hHeld=>?_
            clear hK K;refine nm_ 24 ?_;exact norm_ (by first|(simp only [putAll,Act.put,ps_];done)|(simp only [putAll,Act.put,ps_];rfl)) (hJq4 (vq8) _ ⟨hHeld,(mo_ HOq11.out),(mc_ BK225),(mb_ HB)⟩)
           ·skip;refine goes_ Tryz.func82 (by kernel_rfl) rfl #[.slice (some ad224) l0.length c0,.int .i64 ((rd_T161 l0 a1).f5)] (by rfl) rfl rfl mw_ ?_;with_reducible refine (ih k (by omega) _ _ l0 ((rd_T161 l0 a1).f5) t231 _ ?side1 ?side2 A19.out).mono ?_
            (case side1=>exact mt_ HR0 HB)
            (case side2=>exact HC0.out)
            rintro e wq13 ⟨rfl,hb⟩;refine ⟨_,rfl,?_⟩;replace BK225:=mk_ BK225 hb;replace HB:=ms_ HB hb;(try clear hb);(try clear hb2);(try clear hk);(try clear hi);refine hK.out _ _ (bc8 BK225) fun hHeld=>?_
            clear hK K;refine nm_ 37 ?_;exact norm_ (by first|(simp only [putAll,Act.put,ps_];done)|(simp only [putAll,Act.put,ps_];rfl)) (hJq5 () _ ⟨hHeld,(mc_ BK225),(mb_ HB)⟩)
         ·skip;rintro vq8 wq13 ⟨hS_,h0_,h1_,h2_⟩;have n0_:Aside0 (Kd.R (Kd.int .u8) 5 wq13 w.heap.size (fun _=>True) vq8 y227):=⟨h0_⟩
          have n1_:Aside0 (wq13.heap[gb225]?=some (.cells #[.int .i64 ((rd_T161 l0 a1).f0),.int .u8 ((rd_T161 l0 a1).f1),.string ((rd_T161 l0 a1).f2),.int .i64 ((rd_T161 l0 a1).f3.f0),.int .i64 ((rd_T161 l0 a1).f3.f1),.string ((rd_T161 l0 a1).f3.f2),.int .i64 ((rd_T161 l0 a1).f4),.int .i64 ((rd_T161 l0 a1).f5)] 161 (0,0))):=⟨h1_⟩
          have n2_:Aside0 (Below w.heap.size w wq13):=⟨h2_⟩
          clear BK225;clear HB;clear h0_ h1_ h2_;have HOq11:=n0_;have BK225:=n1_;have HB:=n2_;clear n0_ n1_ n2_;have hHeld:wq13.cell? ⟨gb225,0,none⟩=some (.int .i64 ((rd_T161 l0 a1).f0))∧wq13.cell? ⟨gb225,1,none⟩=some (.int .u8 ((rd_T161 l0 a1).f1))∧wq13.cell? ⟨gb225,2,none⟩=some (.string ((rd_T161 l0 a1).f2))∧wq13.cell? ⟨gb225,3,none⟩=some (.int .i64 ((rd_T161 l0 a1).f3.f0))∧wq13.cell? ⟨gb225,4,none⟩=some (.int .i64 ((rd_T161 l0 a1).f3.f1))∧wq13.cell? ⟨gb225,5,none⟩=some (.string ((rd_T161 l0 a1).f3.f2))∧wq13.cell? ⟨gb225,6,none⟩=some (.int .i64 ((rd_T161 l0 a1).f4))∧wq13.cell? ⟨gb225,7,none⟩=some (.int .i64 ((rd_T161 l0 a1).f5)):=hS_
          refine norm_ (a':=?_) ?_ ?_;rotate_left
          ·exact u551_1
          refine two_ (i:=3) (j:=9) (Ni:=some 25) (Nj:=some 31) b551_17 b551_13 rfl rfl rfl rfl (two_of HT_.out (by kernel_rfl)) (by decide) (by decide) (fun K hK=>?_) (fun K hK=>?_)
          ·skip;have hcvq15:=own_string (P:=Tryz.prog) Tryz.underlying22 Tryz.underlying5 Tryz.underlying9 (Kd.own_of_R HOq11.out);refine value_ (w1:=?_) (v:=?_) (by rfl) rfl ?_ ?_;rotate_left 2
           ·go_simp;constructor
            ·rfl
            ·rfl
           clear hcvq15;refine hK.out _ _ (bc8 BK225) fun hHeld=>?_
           clear hK K;refine nm_ 25 ?_;refine pu_ 4 26 b551_18 (any_of HT_.out (by kernel_rfl)) ?_;refine pu_ 5 27 b551_12 (any_of HT_.out (by kernel_rfl)) ?_;exact norm_ (by first|(simp only [putAll,Act.put,ps_];done)|(simp only [putAll,Act.put,ps_];rfl)) (hJq3 (vq8) _ ⟨hHeld,(mo_ HOq11.out),(mc_ BK225),(mb_ HB)⟩)
          ·skip;refine goes_ Tryz.func82 (by kernel_rfl) rfl #[.slice (some ad224) l0.length c0,.int .i64 ((rd_T161 l0 a1).f4)] (by rfl) rfl rfl mw_ ?_;with_reducible refine (ih k (by omega) _ _ l0 ((rd_T161 l0 a1).f4) t230 _ ?side1 ?side2 A16.out).mono ?_
           (case side1=>exact mt_ HR0 HB)
           (case side2=>exact HC0.out)
           rintro e wq16 ⟨rfl,hb⟩;refine ⟨_,rfl,?_⟩;replace HOq11:=ro_ HOq11 hb;replace BK225:=mk_ BK225 hb;replace HB:=ms_ HB hb;(try clear hb);(try clear hb2);(try clear hk);(try clear hi);refine hK.out _ _ (bc8 BK225) fun hHeld=>?_
           clear hK K;refine nm_ 31 ?_;exact norm_ (by first|(simp only [putAll,Act.put,ps_];done)|(simp only [putAll,Act.put,ps_];rfl)) (hJq4 (vq8) _ ⟨hHeld,(mo_ HOq11.out),(mc_ BK225),(mb_ HB)⟩)
        ·skip;rintro _ wq13 ⟨hS_,h0_,h1_⟩;have n0_:Aside0 (wq13.heap[gb225]?=some (.cells #[.int .i64 ((rd_T161 l0 a1).f0),.int .u8 ((rd_T161 l0 a1).f1),.string ((rd_T161 l0 a1).f2),.int .i64 ((rd_T161 l0 a1).f3.f0),.int .i64 ((rd_T161 l0 a1).f3.f1),.string ((rd_T161 l0 a1).f3.f2),.int .i64 ((rd_T161 l0 a1).f4),.int .i64 ((rd_T161 l0 a1).f5)] 161 (0,0))):=⟨h0_⟩
         have n1_:Aside0 (Below w.heap.size w wq13):=⟨h1_⟩
         clear BK225;clear HB;clear h0_ h1_;have BK225:=n0_;have HB:=n1_;clear n0_ n1_;have hHeld:wq13.cell? ⟨gb225,0,none⟩=some (.int .i64 ((rd_T161 l0 a1).f0))∧wq13.cell? ⟨gb225,1,none⟩=some (.int .u8 ((rd_T161 l0 a1).f1))∧wq13.cell? ⟨gb225,2,none⟩=some (.string ((rd_T161 l0 a1).f2))∧wq13.cell? ⟨gb225,3,none⟩=some (.int .i64 ((rd_T161 l0 a1).f3.f0))∧wq13.cell? ⟨gb225,4,none⟩=some (.int .i64 ((rd_T161 l0 a1).f3.f1))∧wq13.cell? ⟨gb225,5,none⟩=some (.string ((rd_T161 l0 a1).f3.f2))∧wq13.cell? ⟨gb225,6,none⟩=some (.int .i64 ((rd_T161 l0 a1).f4))∧wq13.cell? ⟨gb225,7,none⟩=some (.int .i64 ((rd_T161 l0 a1).f5)):=hS_
         refine norm_ (a':=?_) ?_ ?_;rotate_left
         ·exact u551_1
         refine one_ (i:=2) (N:=some 24) b551_11 rfl rfl (one_of HT_.out (by kernel_rfl)) (by decide) (fun K hK=>?_);refine Kd.R_lit_step (Kd.int .u8) _ 5 ?hg (N:=24) ?hd (xs:=([(rd_T161 l0 a1).f1]:List Int)) (inner:=[.int .u8 ((rd_T161 l0 a1).f1)]) (ok:=fun _=>True) (okp:=fun _=>True) ?hr ?hp (fun _ hk=>hk) trivial (Below.refl _ _) (Nat.le_refl _) (by simp) ?_;(case hd=>rfl);(case hg=>rfl);(case hr=>first|(go_simp;done)|(go_simp;rfl));(case hp=>exact (Reps.one (show Kd.M (Kd.int .u8) _ _ _ ((rd_T161 l0 a1).f1) [.int .u8 ((rd_T161 l0 a1).f1)] from rfl) (Reps.none _ _)));intro vq8 wq16 hoq17 hb hg_ hnew_;clear hg_ hnew_;(first|rw [←Ny227.out] at hoq17|(simp only [Int.reduceToNat] at hoq17;rw [←Ny227.out] at hoq17));have HOq11:=a_ (Kd.R_lower hoq17 (below_size (mb_ HB)));replace BK225:=mk_ BK225 hb;replace HB:=ms_ HB hb;clear hb hoq17;refine hK.out _ _ (bc8 BK225) fun hHeld=>?_
         clear hK K;refine nm_ 24 ?_;exact norm_ (by first|(simp only [putAll,Act.put,ps_];done)|(simp only [putAll,Act.put,ps_];rfl)) (hJ2_9_15 (vq8) _ ⟨hHeld,(mo_ HOq11.out),(mc_ BK225),(mb_ HB)⟩)
       ·skip;rintro vq8 wq16 ⟨hS_,h0_,h1_,h2_⟩;have n0_:Aside0 (Kd.R (Kd.int .u8) 5 wq16 w.heap.size (fun _=>True) vq8 y227):=⟨h0_⟩
        have n1_:Aside0 (wq16.heap[gb225]?=some (.cells #[.int .i64 ((rd_T161 l0 a1).f0),.int .u8 ((rd_T161 l0 a1).f1),.string ((rd_T161 l0 a1).f2),.int .i64 ((rd_T161 l0 a1).f3.f0),.int .i64 ((rd_T161 l0 a1).f3.f1),.string ((rd_T161 l0 a1).f3.f2),.int .i64 ((rd_T161 l0 a1).f4),.int .i64 ((rd_T161 l0 a1).f5)] 161 (0,0))):=⟨h1_⟩
        have n2_:Aside0 (Below w.heap.size w wq16):=⟨h2_⟩
        clear BK225;clear HB;clear h0_ h1_ h2_;have HOq11:=n0_;have BK225:=n1_;have HB:=n2_;clear n0_ n1_ n2_;have hHeld:wq16.cell? ⟨gb225,0,none⟩=some (.int .i64 ((rd_T161 l0 a1).f0))∧wq16.cell? ⟨gb225,1,none⟩=some (.int .u8 ((rd_T161 l0 a1).f1))∧wq16.cell? ⟨gb225,2,none⟩=some (.string ((rd_T161 l0 a1).f2))∧wq16.cell? ⟨gb225,3,none⟩=some (.int .i64 ((rd_T161 l0 a1).f3.f0))∧wq16.cell? ⟨gb225,4,none⟩=some (.int .i64 ((rd_T161 l0 a1).f3.f1))∧wq16.cell? ⟨gb225,5,none⟩=some (.string ((rd_T161 l0 a1).f3.f2))∧wq16.cell? ⟨gb225,6,none⟩=some (.int .i64 ((rd_T161 l0 a1).f4))∧wq16.cell? ⟨gb225,7,none⟩=some (.int .i64 ((rd_T161 l0 a1).f5)):=hS_
        refine norm_ (a':=?_) ?_ ?_;rotate_left
        ·exact u551_1
        refine two_ (i:=3) (j:=15) (Ni:=some 25) (Nj:=some 37) b551_19 b551_11 rfl rfl rfl rfl (two_of HT_.out (by kernel_rfl)) (by decide) (by decide) (fun K hK=>?_) (fun K hK=>?_)
        ·skip;have hcvq18:=own_string (P:=Tryz.prog) Tryz.underlying22 Tryz.underlying5 Tryz.underlying9 (Kd.own_of_R HOq11.out);refine value_ (w1:=?_) (v:=?_) (by rfl) rfl ?_ ?_;rotate_left 2
         ·go_simp;constructor
          ·rfl
          ·rfl
         clear hcvq18;refine hK.out _ _ (bc8 BK225) fun hHeld=>?_
         clear hK K;refine nm_ 25 ?_;refine pu_ 4 26 b551_20 (any_of HT_.out (by kernel_rfl)) ?_;refine pu_ 5 27 b551_21 (any_of HT_.out (by kernel_rfl)) ?_;refine pu_ 10 32 b551_22 (any_of HT_.out (by kernel_rfl)) ?_;refine pu_ 11 33 b551_10 (any_of HT_.out (by kernel_rfl)) ?_;exact norm_ (by first|(simp only [putAll,Act.put,ps_];done)|(simp only [putAll,Act.put,ps_];rfl)) (hJ2_3_9 (vq8) _ ⟨hHeld,(mo_ HOq11.out),(mc_ BK225),(mb_ HB)⟩)
        ·skip;refine goes_ Tryz.func82 (by kernel_rfl) rfl #[.slice (some ad224) l0.length c0,.int .i64 ((rd_T161 l0 a1).f5)] (by rfl) rfl rfl mw_ ?_;with_reducible refine (ih k (by omega) _ _ l0 ((rd_T161 l0 a1).f5) t231 _ ?side1 ?side2 A19.out).mono ?_
         (case side1=>exact mt_ HR0 HB)
         (case side2=>exact HC0.out)
         rintro e wq19 ⟨rfl,hb⟩;refine ⟨_,rfl,?_⟩;replace HOq11:=ro_ HOq11 hb;replace BK225:=mk_ BK225 hb;replace HB:=ms_ HB hb;(try clear hb);(try clear hb2);(try clear hk);(try clear hi);refine hK.out _ _ (bc8 BK225) fun hHeld=>?_
         clear hK K;refine nm_ 37 ?_;exact norm_ (by first|(simp only [putAll,Act.put,ps_];done)|(simp only [putAll,Act.put,ps_];rfl)) (hJ2_9_15 (vq8) _ ⟨hHeld,(mo_ HOq11.out),(mc_ BK225),(mb_ HB)⟩)
      ·skip;rintro vq8 wq16 ⟨hS_,h0_,h1_,h2_⟩;have n0_:Aside0 (Kd.R (Kd.int .u8) 5 wq16 w.heap.size (fun _=>True) vq8 y227):=⟨h0_⟩
       have n1_:Aside0 (wq16.heap[gb225]?=some (.cells #[.int .i64 ((rd_T161 l0 a1).f0),.int .u8 ((rd_T161 l0 a1).f1),.string ((rd_T161 l0 a1).f2),.int .i64 ((rd_T161 l0 a1).f3.f0),.int .i64 ((rd_T161 l0 a1).f3.f1),.string ((rd_T161 l0 a1).f3.f2),.int .i64 ((rd_T161 l0 a1).f4),.int .i64 ((rd_T161 l0 a1).f5)] 161 (0,0))):=⟨h1_⟩
       have n2_:Aside0 (Below w.heap.size w wq16):=⟨h2_⟩
       clear BK225;clear HB;clear h0_ h1_ h2_;have HOq11:=n0_;have BK225:=n1_;have HB:=n2_;clear n0_ n1_ n2_;have hHeld:wq16.cell? ⟨gb225,0,none⟩=some (.int .i64 ((rd_T161 l0 a1).f0))∧wq16.cell? ⟨gb225,1,none⟩=some (.int .u8 ((rd_T161 l0 a1).f1))∧wq16.cell? ⟨gb225,2,none⟩=some (.string ((rd_T161 l0 a1).f2))∧wq16.cell? ⟨gb225,3,none⟩=some (.int .i64 ((rd_T161 l0 a1).f3.f0))∧wq16.cell? ⟨gb225,4,none⟩=some (.int .i64 ((rd_T161 l0 a1).f3.f1))∧wq16.cell? ⟨gb225,5,none⟩=some (.string ((rd_T161 l0 a1).f3.f2))∧wq16.cell? ⟨gb225,6,none⟩=some (.int .i64 ((rd_T161 l0 a1).f4))∧wq16.cell? ⟨gb225,7,none⟩=some (.int .i64 ((rd_T161 l0 a1).f5)):=hS_
       refine norm_ (a':=?_) ?_ ?_;rotate_left
       ·exact u551_1
       refine one_ (i:=9) (N:=some 31) b551_21 rfl rfl (one_of HT_.out (by kernel_rfl)) (by decide) (fun K hK=>?_);refine goes_ Tryz.func82 (by kernel_rfl) rfl #[.slice (some ad224) l0.length c0,.int .i64 ((rd_T161 l0 a1).f4)] (by rfl) rfl rfl mw_ ?_;with_reducible refine (ih k (by omega) _ _ l0 ((rd_T161 l0 a1).f4) t230 _ ?side1 ?side2 A16.out).mono ?_
       (case side1=>exact mt_ HR0 HB)
       (case side2=>exact HC0.out)
       rintro e wq19 ⟨rfl,hb⟩;refine ⟨_,rfl,?_⟩;replace HOq11:=ro_ HOq11 hb;replace BK225:=mk_ BK225 hb;replace HB:=ms_ HB hb;(try clear hb);(try clear hb2);(try clear hk);(try clear hi);refine hK.out _ _ (bc8 BK225) fun hHeld=>?_
       clear hK K;refine nm_ 31 ?_;refine pu_ 10 32 b551_22 (any_of HT_.out (by kernel_rfl)) ?_;refine pu_ 11 33 b551_10 (any_of HT_.out (by kernel_rfl)) ?_;exact norm_ (by first|(simp only [putAll,Act.put,ps_];done)|(simp only [putAll,Act.put,ps_];rfl)) (hJ2_3_9 (vq8) _ ⟨hHeld,(mo_ HOq11.out),(mc_ BK225),(mb_ HB)⟩)
     ·skip;rintro vq8 wq19 ⟨hS_,h0_,h1_,h2_⟩;have n0_:Aside0 (Kd.R (Kd.int .u8) 5 wq19 w.heap.size (fun _=>True) vq8 y227):=⟨h0_⟩
      have n1_:Aside0 (wq19.heap[gb225]?=some (.cells #[.int .i64 ((rd_T161 l0 a1).f0),.int .u8 ((rd_T161 l0 a1).f1),.string ((rd_T161 l0 a1).f2),.int .i64 ((rd_T161 l0 a1).f3.f0),.int .i64 ((rd_T161 l0 a1).f3.f1),.string ((rd_T161 l0 a1).f3.f2),.int .i64 ((rd_T161 l0 a1).f4),.int .i64 ((rd_T161 l0 a1).f5)] 161 (0,0))):=⟨h1_⟩
      have n2_:Aside0 (Below w.heap.size w wq19):=⟨h2_⟩
      clear BK225;clear HB;clear h0_ h1_ h2_;have HOq11:=n0_;have BK225:=n1_;have HB:=n2_;clear n0_ n1_ n2_;have hHeld:wq19.cell? ⟨gb225,0,none⟩=some (.int .i64 ((rd_T161 l0 a1).f0))∧wq19.cell? ⟨gb225,1,none⟩=some (.int .u8 ((rd_T161 l0 a1).f1))∧wq19.cell? ⟨gb225,2,none⟩=some (.string ((rd_T161 l0 a1).f2))∧wq19.cell? ⟨gb225,3,none⟩=some (.int .i64 ((rd_T161 l0 a1).f3.f0))∧wq19.cell? ⟨gb225,4,none⟩=some (.int .i64 ((rd_T161 l0 a1).f3.f1))∧wq19.cell? ⟨gb225,5,none⟩=some (.string ((rd_T161 l0 a1).f3.f2))∧wq19.cell? ⟨gb225,6,none⟩=some (.int .i64 ((rd_T161 l0 a1).f4))∧wq19.cell? ⟨gb225,7,none⟩=some (.int .i64 ((rd_T161 l0 a1).f5)):=hS_
      refine norm_ (a':=?_) ?_ ?_;rotate_left
      ·exact u551_1
      refine one_ (i:=3) (N:=some 25) b551_23 rfl rfl (one_of HT_.out (by kernel_rfl)) (by decide) (fun K hK=>?_);have hcvq20:=own_string (P:=Tryz.prog) Tryz.underlying22 Tryz.underlying5 Tryz.underlying9 (Kd.own_of_R HOq11.out);refine value_ (w1:=?_) (v:=?_) (by rfl) rfl ?_ ?_;rotate_left 2
      ·go_simp;constructor
       ·rfl
       ·rfl
      clear hcvq20;refine hK.out _ _ (bc8 BK225) fun hHeld=>?_
      clear hK K;refine nm_ 25 ?_;refine pu_ 4 26 b551_24 (any_of HT_.out (by kernel_rfl)) ?_;refine pu_ 5 27 b551_25 (any_of HT_.out (by kernel_rfl)) ?_;refine pu_ 10 32 b551_26 (any_of HT_.out (by kernel_rfl)) ?_;refine pu_ 11 33 b551_9 (any_of HT_.out (by kernel_rfl)) ?_;exact norm_ (by first|(simp only [putAll,Act.put,ps_];done)|(simp only [putAll,Act.put,ps_];rfl)) (hJ2_3_9_15 (vq8) _ ⟨hHeld,(mo_ HOq11.out),(mc_ BK225),(mb_ HB)⟩)
    ·skip;rintro vq8 wq19 ⟨hS_,h0_,h1_,h2_⟩;have n0_:Aside0 (Kd.R (Kd.int .u8) 5 wq19 w.heap.size (fun _=>True) vq8 y227):=⟨h0_⟩
     have n1_:Aside0 (wq19.heap[gb225]?=some (.cells #[.int .i64 ((rd_T161 l0 a1).f0),.int .u8 ((rd_T161 l0 a1).f1),.string ((rd_T161 l0 a1).f2),.int .i64 ((rd_T161 l0 a1).f3.f0),.int .i64 ((rd_T161 l0 a1).f3.f1),.string ((rd_T161 l0 a1).f3.f2),.int .i64 ((rd_T161 l0 a1).f4),.int .i64 ((rd_T161 l0 a1).f5)] 161 (0,0))):=⟨h1_⟩
     have n2_:Aside0 (Below w.heap.size w wq19):=⟨h2_⟩
     clear BK225;clear HB;clear h0_ h1_ h2_;have HOq11:=n0_;have BK225:=n1_;have HB:=n2_;clear n0_ n1_ n2_;have hHeld:wq19.cell? ⟨gb225,0,none⟩=some (.int .i64 ((rd_T161 l0 a1).f0))∧wq19.cell? ⟨gb225,1,none⟩=some (.int .u8 ((rd_T161 l0 a1).f1))∧wq19.cell? ⟨gb225,2,none⟩=some (.string ((rd_T161 l0 a1).f2))∧wq19.cell? ⟨gb225,3,none⟩=some (.int .i64 ((rd_T161 l0 a1).f3.f0))∧wq19.cell? ⟨gb225,4,none⟩=some (.int .i64 ((rd_T161 l0 a1).f3.f1))∧wq19.cell? ⟨gb225,5,none⟩=some (.string ((rd_T161 l0 a1).f3.f2))∧wq19.cell? ⟨gb225,6,none⟩=some (.int .i64 ((rd_T161 l0 a1).f4))∧wq19.cell? ⟨gb225,7,none⟩=some (.int .i64 ((rd_T161 l0 a1).f5)):=hS_
     refine norm_ (a':=?_) ?_ ?_;rotate_left
     ·exact u551_1
     refine one_ (i:=15) (N:=some 37) b551_9 rfl rfl (one_of HT_.out (by kernel_rfl)) (by decide) (fun K hK=>?_);refine goes_ Tryz.func82 (by kernel_rfl) rfl #[.slice (some ad224) l0.length c0,.int .i64 ((rd_T161 l0 a1).f5)] (by rfl) rfl rfl mw_ ?_;with_reducible refine (ih k (by omega) _ _ l0 ((rd_T161 l0 a1).f5) t231 _ ?side1 ?side2 A19.out).mono ?_
     (case side1=>exact mt_ HR0 HB)
     (case side2=>exact HC0.out)
     rintro e wq21 ⟨rfl,hb⟩;refine ⟨_,rfl,?_⟩;replace HOq11:=ro_ HOq11 hb;replace BK225:=mk_ BK225 hb;replace HB:=ms_ HB hb;(try clear hb);(try clear hb2);(try clear hk);(try clear hi);refine hK.out _ _ (bc8 BK225) fun hHeld=>?_
     clear hK K;refine nm_ 37 ?_;exact norm_ (by first|(simp only [putAll,Act.put,ps_];done)|(simp only [putAll,Act.put,ps_];rfl)) (hJ2_3_9_15 (vq8) _ ⟨hHeld,(mo_ HOq11.out),(mc_ BK225),(mb_ HB)⟩)
   rintro vq8 wq21 ⟨hS_,h0_,h1_,h2_⟩;have n0_:Aside0 (Kd.R (Kd.int .u8) 5 wq21 w.heap.size (fun _=>True) vq8 y227):=⟨h0_⟩
   have n1_:Aside0 (wq21.heap[gb225]?=some (.cells #[.int .i64 ((rd_T161 l0 a1).f0),.int .u8 ((rd_T161 l0 a1).f1),.string ((rd_T161 l0 a1).f2),.int .i64 ((rd_T161 l0 a1).f3.f0),.int .i64 ((rd_T161 l0 a1).f3.f1),.string ((rd_T161 l0 a1).f3.f2),.int .i64 ((rd_T161 l0 a1).f4),.int .i64 ((rd_T161 l0 a1).f5)] 161 (0,0))):=⟨h1_⟩
   have n2_:Aside0 (Below w.heap.size w wq21):=⟨h2_⟩
   clear BK225;clear HB;clear h0_ h1_ h2_;have HOq11:=n0_;have BK225:=n1_;have HB:=n2_;clear n0_ n1_ n2_;have hHeld:wq21.cell? ⟨gb225,0,none⟩=some (.int .i64 ((rd_T161 l0 a1).f0))∧wq21.cell? ⟨gb225,1,none⟩=some (.int .u8 ((rd_T161 l0 a1).f1))∧wq21.cell? ⟨gb225,2,none⟩=some (.string ((rd_T161 l0 a1).f2))∧wq21.cell? ⟨gb225,3,none⟩=some (.int .i64 ((rd_T161 l0 a1).f3.f0))∧wq21.cell? ⟨gb225,4,none⟩=some (.int .i64 ((rd_T161 l0 a1).f3.f1))∧wq21.cell? ⟨gb225,5,none⟩=some (.string ((rd_T161 l0 a1).f3.f2))∧wq21.cell? ⟨gb225,6,none⟩=some (.int .i64 ((rd_T161 l0 a1).f4))∧wq21.cell? ⟨gb225,7,none⟩=some (.int .i64 ((rd_T161 l0 a1).f5)):=hS_
   refine norm_ (a':=?_) ?_ ?_;rotate_left
   ·exact u551_1
   refine pu_ 16 38 b551_27 (any_of HT_.out (by kernel_rfl)) ?_;refine pu_ 17 39 b551_28 (any_of HT_.out (by kernel_rfl)) ?_;refine pu_ 18 4 b551_29 (any_of HT_.out (by kernel_rfl)) ?_;refine done_ (done_of HT_.out (by kernel_rfl)) ?_;try go_wp2
   go_ret;exact ⟨me_,mb_ HB⟩
end Go.Proofs.YtahambloheoebaaGreatDoor.P
namespace Go.Proofs.YtahambloheoebaaGreatDoor.P
open Go.Proofs.YtahambloheoebaaGreatDoorX
open Go.RowKit Go.Proofs.YtahambloheoebaaGreatDoorW.PrintWords Go.Proofs.YtahambloheoebaaGreatDoorW.PrintLast Go.Proofs.YtahambloheoebaaGreatDoorW.PrintMore
attribute [local go_sem] max2_int min2_int max_two min_two max_three min_three max_four min_four
set_option linter.unusedVariables false
set_option linter.unusedSimpArgs false
mutual
def spec_l2Act.j0:Nat→ByteArray→ByteArray→Int→List (S42)→List (S161)→List (S98)→Int→Int→ByteArray→List Int→Option (ByteArray)
 | 0,_,_,_,_,_,_,_,_,_,_=>none
 | k+1,x5,x233000,x233001,x233002,x233003,x233004,x234000,x234001,x234002,x234003=>spec_l2Act.l0 k x5 x234003 (x234003.length:Int) 0 x233000 x233001 x233002 x233003 x233004
def spec_l2Act.l0:Nat→ByteArray→List Int→Int→Int→ByteArray→Int→List (S42)→List (S161)→List (S98)→Option (ByteArray)
 | 0,_,_,_,_,_,_,_,_,_=>none
 | k+1,x5,x28,x29,x30,x233000,x233001,x233002,x233003,x233004=>if x30<x29 then (if 0≤x30 then (if x30<(x28.length:Int) then ((spec_l2Expr.f k x233003 (rd x28 x30)).bind fun t237=>(if 1+t237.size≤9223372036854775807 then (if x5.size+((⟨#[32]⟩:ByteArray)++t237).size≤9223372036854775807 then (spec_l2Act.l0 k (x5++((⟨#[32]⟩:ByteArray)++t237)) x28 x29 (wrap64 (x30+1)) x233000 x233001 x233002 x233003 x233004) else (none)) else (none))) else (none)) else (none)) else (if 1+x5.size≤9223372036854775807 then (if ((⟨#[40]⟩:ByteArray)++x5).size+1≤9223372036854775807 then (some (((⟨#[40]⟩:ByteArray)++x5)++(⟨#[41]⟩:ByteArray))) else (none)) else (none))
end
def spec_l2Act.f (k:Nat) (a0_0:ByteArray) (a0_1:Int) (l0_2:List (S42)) (l0_3:List (S161)) (l0_4:List (S98)) (a1_0:Int) (a1_1:Int) (a1_2:ByteArray) (l1_3:List Int):Option (ByteArray):=if a1_0=1 then (if 4+a1_2.size≤9223372036854775807 then (spec_l2Act.j0 k ((⟨#[97,100,100,32]⟩:ByteArray)++a1_2) a0_0 a0_1 l0_2 l0_3 l0_4 a1_0 a1_1 a1_2 l1_3) else (none)) else (if a1_0=2 then ((spec_l1Dec.f k a1_1).bind fun t234=>(if 5+t234.size≤9223372036854775807 then (spec_l2Act.j0 k ((⟨#[100,114,111,112,32]⟩:ByteArray)++t234) a0_0 a0_1 l0_2 l0_3 l0_4 a1_0 a1_1 a1_2 l1_3) else (none))) else (if a1_0=3 then ((spec_l1Dec.f k a1_1).bind fun t235=>(if 4+t235.size≤9223372036854775807 then (spec_l2Act.j0 k ((⟨#[109,111,100,32]⟩:ByteArray)++t235) a0_0 a0_1 l0_2 l0_3 l0_4 a1_0 a1_1 a1_2 l1_3) else (none))) else (spec_l2Act.j0 k (⟨#[104,97,108,116]⟩:ByteArray) a0_0 a0_1 l0_2 l0_3 l0_4 a1_0 a1_1 a1_2 l1_3)))
theorem spec_l2Act.mono_l:∀k,(∀y0 y1 y2 y3 y4 y5 y6 y7 y8 y9,LeO (spec_l2Act.j0 k y0 y1 y2 y3 y4 y5 y6 y7 y8 y9) (spec_l2Act.j0 (k+1) y0 y1 y2 y3 y4 y5 y6 y7 y8 y9))∧(∀y0 y1 y2 y3 y4 y5 y6 y7 y8,LeO (spec_l2Act.l0 k y0 y1 y2 y3 y4 y5 y6 y7 y8) (spec_l2Act.l0 (k+1) y0 y1 y2 y3 y4 y5 y6 y7 y8))
 | 0=>⟨fun _ _ _ _ _ _ _ _ _ _ r h=>by simp [spec_l2Act.j0] at h,fun _ _ _ _ _ _ _ _ _ r h=>by simp [spec_l2Act.l0] at h⟩
 | k+1=>by
  obtain ⟨ih0,ih1⟩:=spec_l2Act.mono_l k;refine ⟨?_,?_⟩
  ·intro y0 y1 y2 y3 y4 y5 y6 y7 y8 y9;unfold spec_l2Act.j0
   repeat' with_reducible first|apply ih0|apply ih1|apply spec_l1Dec.mono|apply spec_l2Expr.mono|apply LeO.refl|apply LeO.none|refine LeO.ite ?_ ?_|refine LeO.bind ?_ (fun _=>?_)
  ·intro y0 y1 y2 y3 y4 y5 y6 y7 y8;unfold spec_l2Act.l0
   repeat' with_reducible first|apply ih0|apply ih1|apply spec_l1Dec.mono|apply spec_l2Expr.mono|apply LeO.refl|apply LeO.none|refine LeO.ite ?_ ?_|refine LeO.bind ?_ (fun _=>?_)
theorem spec_l2Act.mono:∀a0 a1 a2 a3 a4 a5 a6 a7 a8 k,LeO (spec_l2Act.f k a0 a1 a2 a3 a4 a5 a6 a7 a8) (spec_l2Act.f (k+1) a0 a1 a2 a3 a4 a5 a6 a7 a8):=by
 intro a0 a1 a2 a3 a4 a5 a6 a7 a8 k;obtain ⟨ih0,ih1⟩:=spec_l2Act.mono_l k;unfold spec_l2Act.f
 repeat' with_reducible first|apply ih0|apply ih1|apply spec_l1Dec.mono|apply spec_l2Expr.mono|apply LeO.refl|apply LeO.none|refine LeO.ite ?_ ?_|refine LeO.bind ?_ (fun _=>?_)
set_option maxHeartbeats 8000000 in
set_option maxRecDepth 100000 in
theorem spec_l2Act.calls (k:Nat) (a0_0:ByteArray) (a0_1:Int) (A0_2:Option Addr) (c0_2:Nat) (l0_2:List (S42)) (A0_3:Option Addr) (c0_3:Nat) (l0_3:List (S161)) (A0_4:Option Addr) (c0_4:Nat) (l0_4:List (S98)) (a1_0:Int) (a1_1:Int) (a1_2:ByteArray) (A1_3:Option Addr) (c1_3:Nat) (l1_3:List Int) (r:ByteArray) (w:World) (hr0_2:Kd.C k42 w A0_2 l0_2.length l0_2) (hc0_2:l0_2.length≤c0_2) (hr0_3:Kd.C k161 w A0_3 l0_3.length l0_3) (hc0_3:l0_3.length≤c0_3) (hr0_4:Kd.C k98 w A0_4 l0_4.length l0_4) (hc0_4:l0_4.length≤c0_4) (hr1_3:Kd.C (Kd.int .i64) w A1_3 l1_3.length l1_3) (hc1_3:l1_3.length≤c1_3) (h:spec_l2Act.f k a0_0 a0_1 l0_2 l0_3 l0_4 a1_0 a1_1 a1_2 l1_3=some r):
  Calls Tryz.prog 40 #[.agg #[.string a0_0,.int .i64 a0_1,.slice A0_2 l0_2.length c0_2,.slice A0_3 l0_3.length c0_3,.slice A0_4 l0_4.length c0_4],.agg #[.int .i64 a1_0,.int .i64 a1_1,.string a1_2,.slice A1_3 l1_3.length c1_3]] w fun e w'=>e=.returned (.string r)∧Below w.heap.size w w':=by
 have hu39:=Tryz.underlying39;have hu98:=Tryz.underlying98;have HR0_2:=a_ hr0_2;have HC0_2:=a_ hc0_2;clear hr0_2 hc0_2;have HR0_3:=a_ hr0_3;have HC0_3:=a_ hc0_3;clear hr0_3 hc0_3;have HR0_4:=a_ hr0_4;have HC0_4:=a_ hc0_4;clear hr0_4 hc0_4;have HR1_3:=a_ hr1_3;have HC1_3:=a_ hc1_3;clear hr1_3 hc1_3;have HB:=a_ (Below.refl w.heap.size w);have H:=h;unfold spec_l2Act.f at H
 clear h;have HC3:=a_ H;clear H;go_enter Tryz.func40,Tryz.ntmps40;go_upto_block 0 with (first|((with_reducible refine gate_dst (N:=2) rfl ?_);refine bh_ 2 #[.string a0_0,.int .i64 a0_1,.slice A0_2 l0_2.length c0_2,.slice A0_3 l0_3.length c0_3,.slice A0_4 l0_4.length c0_4] 39 HB ?_;intro gb232 hg w4 BK232 GE232 hb;replace HB:=ms_ HB hb;clear hb hg)|((with_reducible refine gate_dst (N:=3) rfl ?_);refine bh_ 3 #[.int .i64 a1_0,.int .i64 a1_1,.string a1_2,.slice A1_3 l1_3.length c1_3] 98 HB ?_;intro gb233 hg w5 BK233 GE233 hb;obtain ⟨NB232_233,NB233_232⟩:=mn_ BK232 hg;replace BK232:=mk_ BK232 hb;replace HB:=ms_ HB hb;clear hb hg;have nNB233_232:=NB233_232.out;have nNB232_233:=NB232_233.out;replace hz233:=cz4 BK233))
 (try simp only [Act.put,List.setIfInBounds_toArray,List.set_cons_zero,List.set_cons_succ]);go_cut [5] (fun v5 wc=>∃(kq:Nat) (x5_2:ByteArray),v5=.string x5_2∧Aside0 (spec_l2Act.j0 kq x5_2 a0_0 a0_1 l0_2 l0_3 l0_4 a1_0 a1_1 a1_2 l1_3=some r)∧Aside0 (kq≤k)∧Aside0 (wc.heap[gb232]?=some (.cells #[.string a0_0,.int .i64 a0_1,(.slice A0_2 l0_2.length c0_2),(.slice A0_3 l0_3.length c0_3),(.slice A0_4 l0_4.length c0_4)] 39 (0,0)))∧Aside0 (wc.heap[gb233]?=some (.cells #[.int .i64 a1_0,.int .i64 a1_1,.string a1_2,(.slice A1_3 l1_3.length c1_3)] 98 (0,0)))∧Aside0 (Below w.heap.size w wc))
 case first=>
  have H:=HC3.out;clear HC3;by_cases c8:a1_0=1
  ·rw [if_pos c8] at H;obtain ⟨c8b0,c8b1⟩:=bq_ c8;clear c8;(first|rw [c8b0]|(simp only [i64_w,i32_w];rw [c8b0])|skip);by_cases c9:4+a1_2.size≤9223372036854775807
   case neg=>
    rw [if_neg c9] at H;cases H
   rw [if_pos c9] at H;have c9b0:=eq_true c9;have c9b1:=ct_ c9;try have c9b2:(9223372036854775807<4+a1_2.size)=False:=eq_false (Nat.not_lt.2 c9)
   have H':=a_ H;clear H;have nNB233_232:=NB233_232.out;have nNB232_233:=NB232_233.out;replace hz233:=cz4 BK233;go_wp2;go_meet
   case rel=>exact ⟨_,((⟨#[97,100,100,32]⟩:ByteArray)++a1_2),mq_,H',⟨by first|omega|exact Nat.le_refl _⟩,⟨mc_ BK232⟩,⟨mc_ BK233⟩,⟨mb_ HB⟩⟩
  ·rw [if_neg c8] at H;obtain ⟨c8b0,c8b1⟩:=bn_ c8;(first|rw [c8b0]|(simp only [i64_w,i32_w];rw [c8b0])|skip);by_cases c12:a1_0=2
   ·rw [if_pos c12] at H;obtain ⟨c12b0,c12b1⟩:=bq_ c12;clear c12;obtain ⟨t234,A13,H⟩:=ob_ H;by_cases c14:5+t234.size≤9223372036854775807
    case neg=>
     rw [if_neg c14] at H;cases H
    rw [if_pos c14] at H;have c14b0:=eq_true c14;have c14b1:=ct_ c14;try have c14b2:(9223372036854775807<5+t234.size)=False:=eq_false (Nat.not_lt.2 c14)
    have H':=a_ H;clear H;have nNB233_232:=NB233_232.out;have nNB232_233:=NB232_233.out;replace hz233:=cz4 BK233;go_wp2_with (first|((with_reducible refine gate_callee (f:=38) rfl ?_);refine goesL_ (some 19) rfl rfl Tryz.func38 (by kernel_rfl) rfl #[.int .i64 a1_1] rfl mw_ ?_;(with_reducible refine (spec_l1Dec.calls k a1_1 t234 _ A13.out).mono ?_);rintro e wx ⟨rfl,hb⟩;refine ⟨_,rfl,?_⟩;replace BK232:=mk_ BK232 hb;replace BK233:=mk_ BK233 hb;replace HB:=ms_ HB hb;(try clear hb)));go_meet
    case rel=>exact ⟨_,((⟨#[100,114,111,112,32]⟩:ByteArray)++t234),mq_,H',⟨by first|omega|exact Nat.le_refl _⟩,⟨mc_ BK232⟩,⟨mc_ BK233⟩,⟨mb_ HB⟩⟩
   ·rw [if_neg c12] at H;obtain ⟨c12b0,c12b1⟩:=bn_ c12;by_cases c18:a1_0=3
    ·rw [if_pos c18] at H;obtain ⟨c18b0,c18b1⟩:=bq_ c18;clear c18;obtain ⟨t235,A19,H⟩:=ob_ H;by_cases c20:4+t235.size≤9223372036854775807
     case neg=>
      rw [if_neg c20] at H;cases H
     rw [if_pos c20] at H;have c20b0:=eq_true c20;have c20b1:=ct_ c20;try have c20b2:(9223372036854775807<4+t235.size)=False:=eq_false (Nat.not_lt.2 c20)
     have H':=a_ H;clear H;have nNB233_232:=NB233_232.out;have nNB232_233:=NB232_233.out;replace hz233:=cz4 BK233;go_wp2_with (first|((with_reducible refine gate_callee (f:=38) rfl ?_);refine goesL_ (some 25) rfl rfl Tryz.func38 (by kernel_rfl) rfl #[.int .i64 a1_1] rfl mw_ ?_;(with_reducible refine (spec_l1Dec.calls k a1_1 t235 _ A19.out).mono ?_);rintro e wx ⟨rfl,hb⟩;refine ⟨_,rfl,?_⟩;replace BK232:=mk_ BK232 hb;replace BK233:=mk_ BK233 hb;replace HB:=ms_ HB hb;(try clear hb)));go_meet
     case rel=>exact ⟨_,((⟨#[109,111,100,32]⟩:ByteArray)++t235),mq_,H',⟨by first|omega|exact Nat.le_refl _⟩,⟨mc_ BK232⟩,⟨mc_ BK233⟩,⟨mb_ HB⟩⟩
    ·rw [if_neg c18] at H;obtain ⟨c18b0,c18b1⟩:=bn_ c18;have H':=a_ H;clear H;go_wp2;go_meet
     case rel=>exact ⟨_,((⟨#[104,97,108,116]⟩:ByteArray)),mq_,H',⟨by first|omega|exact Nat.le_refl _⟩,⟨mc_ BK232⟩,⟨mc_ BK233⟩,⟨mb_ HB⟩⟩
 clear HC3;(try clear hz233);obtain ⟨kq,x5_2,rfl,HA,HJ2,BK232,BK233,HB⟩:=hcut;obtain _|kj2:=kq
 ·exact absurd HA.out (by simp [spec_l2Act.j0])
 have H:=HA.out;clear HA;simp only [spec_l2Act.j0] at H;have H':=a_ H;clear H;have nNB233_232:=NB233_232.out;have nNB232_233:=NB232_233.out;replace hz233:=cz4 BK233;go_wp2;go_loopg [5,30] kj2 (fun kq v5 v30 w'=>∃(x5_2:ByteArray) (x30_2:Int),v5=.string x5_2∧v30=.int .i64 x30_2∧Aside0 (spec_l2Act.l0 kq x5_2 l1_3 (l1_3.length:Int) x30_2 a0_0 a0_1 l0_2 l0_3 l0_4=some r)∧Aside0 (kq≤kj2)∧Aside0 (w'.heap[gb232]?=some (.cells #[.string a0_0,.int .i64 a0_1,(.slice A0_2 l0_2.length c0_2),(.slice A0_3 l0_3.length c0_3),(.slice A0_4 l0_4.length c0_4)] 39 (0,0)))∧Aside0 (w'.heap[gb233]?=some (.cells #[.int .i64 a1_0,.int .i64 a1_1,.string a1_2,(.slice A1_3 l1_3.length c1_3)] 98 (0,0)))∧Aside0 (Below w.heap.size w w'))
 case atStart=>exact ⟨(x5_2),(0),mq_,mq_,H',⟨Nat.le_refl _⟩,⟨mc_ BK232⟩,⟨mc_ BK233⟩,⟨mb_ HB⟩⟩
 clear H';(try clear hz233);obtain ⟨x5_2,x30_2,rfl,rfl,HA,HK2,BK232,BK233,HB⟩:=hrel;obtain _|k2:=gk
 ·exact absurd HA.out (by simp [spec_l2Act.l0])
 have H:=HA.out;clear HA;simp only [spec_l2Act.l0] at H;by_cases c26:x30_2<(l1_3.length:Int)
 ·rw [if_pos c26] at H;have c26b0:=ct_ c26;clear c26;by_cases c27:0≤x30_2
  case neg=>
   rw [if_neg c27] at H;cases H
  rw [if_pos c27] at H;have c27b0:=ct_ c27;clear c27;by_cases c28:x30_2<(l1_3.length:Int)
  case neg=>
   rw [if_neg c28] at H;cases H
  rw [if_pos c28] at H;have c28b0:=ct_ c28;clear c28;obtain ⟨t237,A29,H⟩:=ob_ H;by_cases c30:1+t237.size≤9223372036854775807
  case neg=>
   rw [if_neg c30] at H;cases H
  rw [if_pos c30] at H;have c30b0:=eq_true c30;have c30b1:=ct_ c30;try have c30b2:(9223372036854775807<1+t237.size)=False:=eq_false (Nat.not_lt.2 c30)
  by_cases c31:x5_2.size+((⟨#[32]⟩:ByteArray)++t237).size≤9223372036854775807
  case neg=>
   rw [if_neg c31] at H;cases H
  rw [if_pos c31] at H;have c31b0:=eq_true c31;have c31b1:=ct_ c31;try have c31b2:(9223372036854775807<x5_2.size+((⟨#[32]⟩:ByteArray)++t237).size)=False:=eq_false (Nat.not_lt.2 c31)
  try have c31b3:(9223372036854775807<x5_2.size+(1+t237.size))=False:=eq_false (by have e1_:((⟨#[32]⟩:ByteArray)++t237).size=1+t237.size:=by { simp only [ByteArray.size_append];first|rfl|omega };omega)
  have H':=a_ H;clear H;have p236:0≤(x30_2:Int):=md_
  have q236:x30_2<(l1_3.length:Int):=md_
  obtain ⟨ad236,e236,hx236_0⟩:=Kd.at_int HR1_3.out x30_2 p236 q236;cases e236;replace hx236_0:=mx_ HB hx236_0;replace p236:=eq_true p236;replace q236:=eq_true q236;have nNB232_233:=NB232_233.out;have nNB233_232:=NB233_232.out;replace hz232:=cz5 BK232;go_wp2_with (first|((with_reducible refine gate_callee (f:=82) rfl ?_);refine goesL_ (some 38) rfl rfl Tryz.func82 (by kernel_rfl) rfl #[.slice A0_3 l0_3.length c0_3,.int .i64 (rd l1_3 x30_2)] rfl mw_ ?_;(with_reducible refine (spec_l2Expr.calls k2 _ _ l0_3 (rd l1_3 x30_2) t237 _ ?side1 HC0_3.out A29.out).mono ?_);(case side1=>exact mt_ HR0_3 HB);rintro e wx ⟨rfl,hb⟩;refine ⟨_,rfl,?_⟩;replace BK232:=mk_ BK232 hb;replace BK233:=mk_ BK233 hb;replace HB:=ms_ HB hb;(try clear hb)));go_roundg k2
  case measure=>
   have:=HJ2.out
   have:=HK2.out
   omega
  case rel=>exact ⟨(x5_2++((⟨#[32]⟩:ByteArray)++t237)),(wrap64 (x30_2+1)),mq_,mq_,H',⟨by have:=HJ2.out;have:=HK2.out;omega⟩,⟨mc_ BK232⟩,⟨mc_ BK233⟩,⟨mb_ HB⟩⟩
 ·rw [if_neg c26] at H;have c26b0:=cf_ c26;clear c26;by_cases c35:1+x5_2.size≤9223372036854775807
  case neg=>
   rw [if_neg c35] at H;cases H
  rw [if_pos c35] at H;have c35b0:=eq_true c35;have c35b1:=ct_ c35;try have c35b2:(9223372036854775807<1+x5_2.size)=False:=eq_false (Nat.not_lt.2 c35)
  by_cases c36:((⟨#[40]⟩:ByteArray)++x5_2).size+1≤9223372036854775807
  case neg=>
   rw [if_neg c36] at H;cases H
  rw [if_pos c36] at H;have c36b0:=eq_true c36;have c36b1:=ct_ c36;try have c36b2:(9223372036854775807<((⟨#[40]⟩:ByteArray)++x5_2).size+1)=False:=eq_false (Nat.not_lt.2 c36)
  try have c36b3:(9223372036854775807<1+x5_2.size+1)=False:=eq_false (by have e0_:((⟨#[40]⟩:ByteArray)++x5_2).size=1+x5_2.size:=by { simp only [ByteArray.size_append];first|rfl|omega };omega)
  obtain rfl:=oi_ H;go_wp2;go_ret;exact ⟨me_,mb_ HB⟩
end Go.Proofs.YtahambloheoebaaGreatDoor.P
namespace Go.Proofs.YtahambloheoebaaGreatDoorX
open Go.RowKit Go.Proofs.YtahambloheoebaaGreatDoorW.PrintWords
set_option linter.unusedVariables false
set_option linter.unusedSimpArgs false
def numsB (s:ByteArray):List Int:=s.data.toList.map fun b=>(b.toNat:Int)
theorem numsB_length (s:ByteArray):(numsB s).length=s.size:=by
 unfold numsB
 rw [List.length_map];exact Array.length_toList
def Row8 (w:World) (b:Nat) (xs:List Int):Prop:=
 ∃(row:Array Value) (fz:Nat×Nat),w.heap[b]?=some (.cells row 5 fz)∧xs.length≤fz.1∧xs.length≤row.size∧∀(i:Nat) (x:Int),xs[i]?=some x→row[i]?=some (Value.int .u8 x)
def BR (w:World) (base:Nat) (v:Value) (xs:List Int):Prop:=
 (v=.slice none 0 0∧xs=[])∨∃b c,v=.slice (some ⟨b,0,none⟩) xs.length c∧xs.length≤c∧base≤b∧Row8 w b xs
theorem Row8.cell {w:World} {b:Nat} {xs:List Int} (h:Row8 w b xs) {i:Nat} {x:Int} (hi:xs[i]?=some x):w.cell? ⟨b,i,none⟩=some (.int .u8 x):=by
 obtain ⟨row,fz,h1,h2,h3,h4⟩:=h;simp [World.cell?,h1,h4 i x hi]
theorem Row8.lt {w:World} {b:Nat} {xs:List Int} (h:Row8 w b xs):b<w.heap.size:=by
 obtain ⟨row,fz,h1,_⟩:=h;exact (Array.getElem?_eq_some_iff.1 h1).1
theorem Row8.below {w w':World} {n b:Nat} {xs:List Int} (h:Row8 w b xs) (hb:Below n w w') (hl:b<n):Row8 w' b xs:=by
 obtain ⟨row,fz,h1,h2⟩:=h;exact ⟨row,fz,by rw [hb.block b hl];exact h1,h2⟩
theorem Row8.frozen {w:World} {b:Nat} {xs:List Int} (h:Row8 w b xs) {i:Nat} (hi:i<xs.length):w.frozen? ⟨b,i,none⟩=false:=by
 obtain ⟨row,fz,h1,h2,h3,h4⟩:=h;have:¬(fz.1≤i):=by omega
 simp [World.frozen?,h1,this]
theorem Row8.set {w:World} {b:Nat} {xs:List Int} (h:Row8 w b xs) {i:Nat} (hi:i<xs.length) (x:Int):Row8 (w.setCell ⟨b,i,none⟩ (.int .u8 x)) b (xs.set i x):=by
 obtain ⟨row,fz,h1,h2,h3,h4⟩:=h;refine ⟨row.setIfInBounds i (.int .u8 x),fz,?_,by simpa using h2,by simpa using h3,?_⟩
 ·simp [World.setCell,Array.getElem?_modify,h1]
 ·intro j y hj;rw [List.getElem?_set] at hj;rw [Array.getElem?_setIfInBounds];split at hj
  ·rename_i e
   subst e;first|rw [if_pos hi] at hj|skip
   cases hj;rw [if_pos rfl,if_pos (by omega)]
  ·rename_i e
   rw [if_neg e];exact h4 j y hj
theorem BR.C {w:World} {base:Nat} {v:Value} {xs:List Int} (h:BR w base v xs) (hl:xs.length≤9223372036854775807):∃A c,v=.slice A xs.length c∧xs.length≤c∧Kd.C (Kd.int .u8) w A xs.length xs:=by
 rcases h with ⟨rfl,rfl⟩|⟨b,c,rfl,hc,hb,hR⟩
 ·exact ⟨none,0,rfl,Nat.le_refl _,rfl,by simp,fun h=>absurd h (by simp)⟩
 ·refine ⟨_,c,rfl,hc,rfl,hl,fun _=>⟨_,rfl,fun j p hj=>⟨[.int .u8 p],rfl,rfl,fun i u hu=>?_⟩⟩⟩
  have hi:i=0:=by
   have:=(List.getElem?_eq_some_iff.1 hu).1
   simpa using this
  subst hi;cases hu
  have e:(⟨b,0,none⟩:Addr).add (j*(Kd.int .u8).sz+0)=⟨b,j,none⟩:=by
   have e1:j*(Kd.int .u8).sz+0=j:=by show j*1+0=j;omega
   rw [e1];unfold Addr.add
   split
   ·rename_i h0;subst h0;rfl
   ·simp
  rw [e];exact hR.cell hj
theorem BR_conv {base:Nat} (W:World) (s:ByteArray) (hb:base≤W.heap.size):BR (Lib.bytesWorld W 5 s) base (.slice (some ⟨W.heap.size,0,none⟩) s.size (grownCap W s.size 0 5)) (numsB s):=by
 refine .inr ⟨W.heap.size,_,by rw [numsB_length],?_,hb,Lib.bytesCells W 5 s,_,Lib.bytesWorld_at_new W 5 s,?_,?_,?_⟩
 ·rw [numsB_length];exact grownCap_ge _ _ _ _
 ·rw [numsB_length];simp [Lib.bytesCells]
 ·rw [numsB_length];simp [Lib.bytesCells]
 ·intro i x hi;unfold numsB at hi
  rw [List.getElem?_map] at hi;obtain ⟨c,hc,rfl⟩:=Option.map_eq_some_iff.1 hi
  have hlt:i<s.data.size:=by
   have:=(List.getElem?_eq_some_iff.1 hc).1
   simpa using this
  unfold Lib.bytesCells
  rw [Array.getElem?_append_left (by simpa using hlt),Array.getElem?_map];have:s.data[i]?=some c:=by rw [←Array.getElem?_toList];exact hc
  rw [this];rfl
theorem below_conv (W:World) (e:TypeId) (s:ByteArray):Below W.heap.size W (Lib.bytesWorld W e s):=by
 refine ⟨?_,?_,?_,by rw [Lib.bytesWorld_size];omega,fun k hk=>Lib.bytesWorld_at_old W e s k hk⟩;all_goals (simp only [Lib.bytesWorld,World.freeze];split<;>rfl)
end Go.Proofs.YtahambloheoebaaGreatDoorX
namespace Go.Proofs.YtahambloheoebaaGreatDoor.P
open Go.Proofs.YtahambloheoebaaGreatDoorX
open Go.RowKit Go.Proofs.YtahambloheoebaaGreatDoorW.PrintWords Go.Proofs.YtahambloheoebaaGreatDoorW.PrintLast Go.Proofs.YtahambloheoebaaGreatDoorW.PrintMore
attribute [local go_sem] max2_int min2_int max_two min_two max_three min_three max_four min_four
set_option linter.unusedVariables false
set_option linter.unusedSimpArgs false
open Go.Proofs.YtahambloheoebaaGreatDoorX
mutual
def spec_PrintRules.l0:Nat→ByteArray→List (S39)→Int→Int→Option (ByteArray)
 | 0,_,_,_,_=>none
 | k+1,x3,x15,x16,x17=>if x17<x16 then (if 0≤x17 then (if x17<(x15.length:Int) then (if 6+((rd_T39 x15 x17).f0).size≤9223372036854775807 then (if ((⟨#[40,114,117,108,101,32]⟩:ByteArray)++((rd_T39 x15 x17).f0)).size+1≤9223372036854775807 then ((spec_l1Dec.f k ((rd_T39 x15 x17).f1)).bind fun t241=>(if (((⟨#[40,114,117,108,101,32]⟩:ByteArray)++((rd_T39 x15 x17).f0))++(⟨#[32]⟩:ByteArray)).size+t241.size≤9223372036854775807 then (if x3.size+((((⟨#[40,114,117,108,101,32]⟩:ByteArray)++((rd_T39 x15 x17).f0))++(⟨#[32]⟩:ByteArray))++t241).size≤9223372036854775807 then (spec_PrintRules.l1 k (x3++((((⟨#[40,114,117,108,101,32]⟩:ByteArray)++((rd_T39 x15 x17).f0))++(⟨#[32]⟩:ByteArray))++t241)) x15 x16 x17 ((rd_T39 x15 x17).f2) (((rd_T39 x15 x17).f2).length:Int) 0 ((rd_T39 x15 x17).f0) ((rd_T39 x15 x17).f1) ((rd_T39 x15 x17).f2) ((rd_T39 x15 x17).f3) ((rd_T39 x15 x17).f4)) else (none)) else (none))) else (none)) else (none)) else (none)) else (none)) else (some x3)
def spec_PrintRules.l1:Nat→ByteArray→List (S39)→Int→Int→List (S42)→Int→Int→ByteArray→Int→List (S42)→List (S161)→List (S98)→Option (ByteArray)
 | 0,_,_,_,_,_,_,_,_,_,_,_,_=>none
 | k+1,x3,x15,x16,x17,x32,x33,x34,x241000,x241001,x241002,x241003,x241004=>if x34<x33 then (if 0≤x34 then (if x34<(x32.length:Int) then (if x3.size+4≤9223372036854775807 then (if (rd_T42 x32 x34).f0=true then (if (x3++(⟨#[10,32,32,40]⟩:ByteArray)).size+4≤9223372036854775807 then (spec_PrintRules.j2 k ((x3++(⟨#[10,32,32,40]⟩:ByteArray))++(⟨#[110,111,116,32]⟩:ByteArray)) x15 x16 x17 x32 x33 x34 x241000 x241001 x241002 x241003 x241004 ((rd_T42 x32 x34).f0) ((rd_T42 x32 x34).f1) ((rd_T42 x32 x34).f2)) else (none)) else (spec_PrintRules.j2 k (x3++(⟨#[10,32,32,40]⟩:ByteArray)) x15 x16 x17 x32 x33 x34 x241000 x241001 x241002 x241003 x241004 ((rd_T42 x32 x34).f0) ((rd_T42 x32 x34).f1) ((rd_T42 x32 x34).f2))) else (none)) else (none)) else (none)) else (if x3.size+5≤9223372036854775807 then (spec_PrintRules.l3 k (x3++(⟨#[10,32,32,61,62]⟩:ByteArray)) x15 x16 x17 x241004 (x241004.length:Int) 0 x241000 x241001 x241002 x241003 x241004) else (none))
def spec_PrintRules.j2:Nat→ByteArray→List (S39)→Int→Int→List (S42)→Int→Int→ByteArray→Int→List (S42)→List (S161)→List (S98)→Bool→ByteArray→List (S86)→Option (ByteArray)
 | 0,_,_,_,_,_,_,_,_,_,_,_,_,_,_,_=>none
 | k+1,x3,x15,x16,x17,x32,x33,x34,x241000,x241001,x241002,x241003,x241004,x244000,x244001,x244002=>if x3.size+x244001.size≤9223372036854775807 then (spec_PrintRules.l2 k (x3++x244001) x15 x16 x17 x32 x33 x34 x244002 (x244002.length:Int) 0 x241000 x241001 x241002 x241003 x241004) else (none)
def spec_PrintRules.l2:Nat→ByteArray→List (S39)→Int→Int→List (S42)→Int→Int→List (S86)→Int→Int→ByteArray→Int→List (S42)→List (S161)→List (S98)→Option (ByteArray)
 | 0,_,_,_,_,_,_,_,_,_,_,_,_,_,_,_=>none
 | k+1,x3,x15,x16,x17,x32,x33,x34,x49,x50,x51,x241000,x241001,x241002,x241003,x241004=>if x51<x50 then (if 0≤x51 then (if x51<(x49.length:Int) then ((spec_l2Term.f k ((rd_T86 x49 x51).f0) ((rd_T86 x49 x51).f1) ((rd_T86 x49 x51).f2) ((rd_T86 x49 x51).f3.f0) ((rd_T86 x49 x51).f3.f1) ((rd_T86 x49 x51).f3.f2)).bind fun t246=>(if 1+t246.size≤9223372036854775807 then (if x3.size+((⟨#[32]⟩:ByteArray)++t246).size≤9223372036854775807 then (spec_PrintRules.l2 k (x3++((⟨#[32]⟩:ByteArray)++t246)) x15 x16 x17 x32 x33 x34 x49 x50 (wrap64 (x51+1)) x241000 x241001 x241002 x241003 x241004) else (none)) else (none))) else (none)) else (none)) else (if x3.size+1≤9223372036854775807 then (spec_PrintRules.l1 k (x3++(⟨#[41]⟩:ByteArray)) x15 x16 x17 x32 x33 (wrap64 (x34+1)) x241000 x241001 x241002 x241003 x241004) else (none))
def spec_PrintRules.l3:Nat→ByteArray→List (S39)→Int→Int→List (S98)→Int→Int→ByteArray→Int→List (S42)→List (S161)→List (S98)→Option (ByteArray)
 | 0,_,_,_,_,_,_,_,_,_,_,_,_=>none
 | k+1,x3,x15,x16,x17,x67,x68,x69,x241000,x241001,x241002,x241003,x241004=>if x69<x68 then (if 0≤x69 then (if x69<(x67.length:Int) then ((spec_l2Act.f k x241000 x241001 x241002 x241003 x241004 ((rd_T98 x67 x69).f0) ((rd_T98 x67 x69).f1) ((rd_T98 x67 x69).f2) ((rd_T98 x67 x69).f3)).bind fun t249=>(if 3+t249.size≤9223372036854775807 then (if x3.size+((⟨#[10,32,32]⟩:ByteArray)++t249).size≤9223372036854775807 then (spec_PrintRules.l3 k (x3++((⟨#[10,32,32]⟩:ByteArray)++t249)) x15 x16 x17 x67 x68 (wrap64 (x69+1)) x241000 x241001 x241002 x241003 x241004) else (none)) else (none))) else (none)) else (none)) else (if x3.size+2≤9223372036854775807 then (spec_PrintRules.l0 k (x3++(⟨#[41,10]⟩:ByteArray)) x15 x16 (wrap64 (x17+1))) else (none))
end
def spec_PrintRules.f (k:Nat) (l0:List (S39)):Option (ByteArray):=(spec_l2Checked.f k l0).bind fun t238=>(if t238=true then (spec_PrintRules.l0 k (⟨#[]⟩:ByteArray) l0 (l0.length:Int) 0) else (some (⟨#[]⟩:ByteArray)))
theorem spec_PrintRules.mono_l:∀k,(∀y0 y1 y2 y3,LeO (spec_PrintRules.l0 k y0 y1 y2 y3) (spec_PrintRules.l0 (k+1) y0 y1 y2 y3))∧(∀y0 y1 y2 y3 y4 y5 y6 y7 y8 y9 y10 y11,LeO (spec_PrintRules.l1 k y0 y1 y2 y3 y4 y5 y6 y7 y8 y9 y10 y11) (spec_PrintRules.l1 (k+1) y0 y1 y2 y3 y4 y5 y6 y7 y8 y9 y10 y11))∧(∀y0 y1 y2 y3 y4 y5 y6 y7 y8 y9 y10 y11 y12 y13 y14,LeO (spec_PrintRules.j2 k y0 y1 y2 y3 y4 y5 y6 y7 y8 y9 y10 y11 y12 y13 y14) (spec_PrintRules.j2 (k+1) y0 y1 y2 y3 y4 y5 y6 y7 y8 y9 y10 y11 y12 y13 y14))∧(∀y0 y1 y2 y3 y4 y5 y6 y7 y8 y9 y10 y11 y12 y13 y14,LeO (spec_PrintRules.l2 k y0 y1 y2 y3 y4 y5 y6 y7 y8 y9 y10 y11 y12 y13 y14) (spec_PrintRules.l2 (k+1) y0 y1 y2 y3 y4 y5 y6 y7 y8 y9 y10 y11 y12 y13 y14))∧(∀y0 y1 y2 y3 y4 y5 y6 y7 y8 y9 y10 y11,LeO (spec_PrintRules.l3 k y0 y1 y2 y3 y4 y5 y6 y7 y8 y9 y10 y11) (spec_PrintRules.l3 (k+1) y0 y1 y2 y3 y4 y5 y6 y7 y8 y9 y10 y11))
 | 0=>⟨fun _ _ _ _ r h=>by simp [spec_PrintRules.l0] at h,fun _ _ _ _ _ _ _ _ _ _ _ _ r h=>by simp [spec_PrintRules.l1] at h,fun _ _ _ _ _ _ _ _ _ _ _ _ _ _ _ r h=>by simp [spec_PrintRules.j2] at h,fun _ _ _ _ _ _ _ _ _ _ _ _ _ _ _ r h=>by simp [spec_PrintRules.l2] at h,fun _ _ _ _ _ _ _ _ _ _ _ _ r h=>by simp [spec_PrintRules.l3] at h⟩
 | k+1=>by
  obtain ⟨ih0,ih1,ih2,ih3,ih4⟩:=spec_PrintRules.mono_l k;refine ⟨?_,?_,?_,?_,?_⟩
  ·intro y0 y1 y2 y3;unfold spec_PrintRules.l0
   repeat' with_reducible first|apply ih0|apply ih1|apply ih2|apply ih3|apply ih4|apply spec_l1Dec.mono|apply spec_l2Act.mono|apply spec_l2Checked.mono|apply spec_l2Term.mono|apply LeO.refl|apply LeO.none|refine LeO.ite ?_ ?_|refine LeO.bind ?_ (fun _=>?_)
  ·intro y0 y1 y2 y3 y4 y5 y6 y7 y8 y9 y10 y11;unfold spec_PrintRules.l1
   repeat' with_reducible first|apply ih0|apply ih1|apply ih2|apply ih3|apply ih4|apply spec_l1Dec.mono|apply spec_l2Act.mono|apply spec_l2Checked.mono|apply spec_l2Term.mono|apply LeO.refl|apply LeO.none|refine LeO.ite ?_ ?_|refine LeO.bind ?_ (fun _=>?_)
  ·intro y0 y1 y2 y3 y4 y5 y6 y7 y8 y9 y10 y11 y12 y13 y14;unfold spec_PrintRules.j2
   repeat' with_reducible first|apply ih0|apply ih1|apply ih2|apply ih3|apply ih4|apply spec_l1Dec.mono|apply spec_l2Act.mono|apply spec_l2Checked.mono|apply spec_l2Term.mono|apply LeO.refl|apply LeO.none|refine LeO.ite ?_ ?_|refine LeO.bind ?_ (fun _=>?_)
  ·intro y0 y1 y2 y3 y4 y5 y6 y7 y8 y9 y10 y11 y12 y13 y14;unfold spec_PrintRules.l2
   repeat' with_reducible first|apply ih0|apply ih1|apply ih2|apply ih3|apply ih4|apply spec_l1Dec.mono|apply spec_l2Act.mono|apply spec_l2Checked.mono|apply spec_l2Term.mono|apply LeO.refl|apply LeO.none|refine LeO.ite ?_ ?_|refine LeO.bind ?_ (fun _=>?_)
  ·intro y0 y1 y2 y3 y4 y5 y6 y7 y8 y9 y10 y11;unfold spec_PrintRules.l3
   repeat' with_reducible first|apply ih0|apply ih1|apply ih2|apply ih3|apply ih4|apply spec_l1Dec.mono|apply spec_l2Act.mono|apply spec_l2Checked.mono|apply spec_l2Term.mono|apply LeO.refl|apply LeO.none|refine LeO.ite ?_ ?_|refine LeO.bind ?_ (fun _=>?_)
theorem spec_PrintRules.mono:∀a0 k,LeO (spec_PrintRules.f k a0) (spec_PrintRules.f (k+1) a0):=by
 intro a0 k;obtain ⟨ih0,ih1,ih2,ih3,ih4⟩:=spec_PrintRules.mono_l k;unfold spec_PrintRules.f
 repeat' with_reducible first|apply ih0|apply ih1|apply ih2|apply ih3|apply ih4|apply spec_l1Dec.mono|apply spec_l2Act.mono|apply spec_l2Checked.mono|apply spec_l2Term.mono|apply LeO.refl|apply LeO.none|refine LeO.ite ?_ ?_|refine LeO.bind ?_ (fun _=>?_)
def spec_PrintRules.T7:Bool×List (List Nat×List Nat):=(true,[([],[]),([],[]),([1],[1]),([2],[2]),([3],[3]),([],[]),([5],[5]),([6],[6]),([4,7],[4,7]),([0,8],[0,8]),([9,7,0,1,2,3,4,5,6,7,8,9],[0,9])])
def spec_PrintRules.B7:List Nat:=[0,0,2,6,14,0,32,96,254,511,1023]
theorem spec_PrintRules.tab7:rtab .any (opsOf Tryz.f13 7)=spec_PrintRules.T7:=by kernel_rfl
theorem spec_PrintRules.bits7:waitsOk spec_PrintRules.T7.2 spec_PrintRules.B7=true:=by kernel_rfl
abbrev b95a_0:Array Bool:=#[f_,f_,f_,f_,f_,f_,f_,f_,f_,f_,f_]
abbrev b95a_1:Array Bool:=#[t_,f_,f_,f_,f_,f_,f_,f_,f_,f_,f_]
abbrev b95a_2:Array Bool:=#[t_,t_,f_,f_,f_,f_,f_,f_,f_,f_,f_]
abbrev b95a_3:Array Bool:=#[t_,t_,f_,f_,f_,t_,f_,f_,f_,f_,f_]
abbrev b95a_4:Array Bool:=#[t_,t_,t_,f_,f_,t_,f_,f_,f_,f_,f_]
abbrev b95a_5:Array Bool:=#[t_,t_,t_,t_,f_,t_,f_,f_,f_,f_,f_]
abbrev b95a_6:Array Bool:=#[t_,t_,t_,t_,t_,t_,f_,f_,f_,f_,f_]
abbrev b95a_7:Array Bool:=#[t_,t_,t_,t_,t_,t_,t_,f_,f_,f_,f_]
abbrev b95a_8:Array Bool:=#[t_,t_,t_,t_,t_,t_,t_,t_,f_,f_,f_]
abbrev b95a_9:Array Bool:=#[t_,t_,t_,t_,t_,t_,t_,t_,t_,f_,f_]
abbrev b95a_10:Array Bool:=#[t_,t_,t_,t_,t_,t_,t_,t_,t_,t_,f_]
abbrev b95a_11:Array Bool:=#[t_,t_,t_,t_,t_,t_,t_,t_,t_,t_,t_]
set_option maxHeartbeats 8000000 in
set_option maxRecDepth 100000 in
theorem spec_PrintRules.calls (k:Nat) (A0:Option Addr) (c0:Nat) (l0:List (S39)) (r:ByteArray) (w:World) (hr0:Kd.C k39 w A0 l0.length l0) (hc0:l0.length≤c0) (h:spec_PrintRules.f k l0=some r):
  Calls Tryz.prog 13 #[.slice A0 l0.length c0] w fun e w'=>∃v,e=.returned v∧BR w' w.heap.size v (numsB r)∧Below w.heap.size w w':=by
 have hu39:=Tryz.underlying39;have hu42:=Tryz.underlying42;have hu86:=Tryz.underlying86;have hu98:=Tryz.underlying98;have HR0:=a_ hr0;have HC0:=a_ hc0;clear hr0 hc0;have HB:=a_ (Below.refl w.heap.size w);have H:=h;unfold spec_PrintRules.f at H
 clear h;obtain ⟨t238,A2,H⟩:=ob_ H;by_cases c3:t238=true
 ·subst c3;rw [if_pos rfl] at H;have H':=a_ H;clear H;go_enter Tryz.func13,Tryz.ntmps13;go_wp2_with (first|((with_reducible refine gate_callee (f:=37) rfl ?_);refine goesL_ (some 13) rfl rfl Tryz.func37 (by kernel_rfl) rfl #[.slice A0 l0.length c0] rfl mw_ ?_;(with_reducible refine (spec_l2Checked.calls k _ _ l0 true _ ?side1 HC0.out A2.out).mono ?_);(case side1=>repeat (first|exact HR0.out|(with_reducible refine Kd.C_alloc ?_ _)|(with_reducible refine Kd.C_drewN ?_ _)|(with_reducible refine Kd.C_drew ?_)));rintro e wx ⟨rfl,hb⟩;refine ⟨_,rfl,?_⟩;replace HB:=ms_ HB hb;(try clear hb)));go_loopg [3,17] k (fun kq v3 v17 w'=>∃(x3_1:ByteArray) (x17_1:Int),v3=.string x3_1∧v17=.int .i64 x17_1∧Aside0 (spec_PrintRules.l0 kq x3_1 l0 (l0.length:Int) x17_1=some r)∧Aside0 (kq≤k)∧Aside0 (Below w.heap.size w w'))
  case atStart=>exact ⟨((⟨#[]⟩:ByteArray)),(0),mq_,mq_,H',⟨Nat.le_refl _⟩,⟨mb_ HB⟩⟩
  clear H';(try clear c3);obtain ⟨x3_1,x17_1,rfl,rfl,HA,HK1,HB⟩:=hrel;obtain _|k1:=gk
  ·exact absurd HA.out (by simp [spec_PrintRules.l0])
  have H:=HA.out;clear HA;simp only [spec_PrintRules.l0] at H;by_cases c5:x17_1<(l0.length:Int)
  ·rw [if_pos c5] at H;have c5b0:=ct_ c5;clear c5;by_cases c6:0≤x17_1
   case neg=>
    rw [if_neg c6] at H;cases H
   rw [if_pos c6] at H;have c6b0:=ct_ c6;clear c6;by_cases c7:x17_1<(l0.length:Int)
   case neg=>
    rw [if_neg c7] at H;cases H
   rw [if_pos c7] at H;have c7b0:=ct_ c7;clear c7;by_cases c8:6+((rd_T39 l0 x17_1).f0).size≤9223372036854775807
   case neg=>
    rw [if_neg c8] at H;cases H
   rw [if_pos c8] at H;have c8b0:=eq_true c8;have c8b1:=ct_ c8;try have c8b2:(9223372036854775807<6+((rd_T39 l0 x17_1).f0).size)=False:=eq_false (Nat.not_lt.2 c8)
   by_cases c9:((⟨#[40,114,117,108,101,32]⟩:ByteArray)++((rd_T39 l0 x17_1).f0)).size+1≤9223372036854775807
   case neg=>
    rw [if_neg c9] at H;cases H
   rw [if_pos c9] at H;have c9b0:=eq_true c9;have c9b1:=ct_ c9;try have c9b2:(9223372036854775807<((⟨#[40,114,117,108,101,32]⟩:ByteArray)++((rd_T39 l0 x17_1).f0)).size+1)=False:=eq_false (Nat.not_lt.2 c9)
   try have c9b3:(9223372036854775807<6+((rd_T39 l0 x17_1).f0).size+1)=False:=eq_false (by have e0_:((⟨#[40,114,117,108,101,32]⟩:ByteArray)++((rd_T39 l0 x17_1).f0)).size=6+((rd_T39 l0 x17_1).f0).size:=by { simp only [ByteArray.size_append];first|rfl|omega };omega)
   obtain ⟨t241,A10,H⟩:=ob_ H;by_cases c11:(((⟨#[40,114,117,108,101,32]⟩:ByteArray)++((rd_T39 l0 x17_1).f0))++(⟨#[32]⟩:ByteArray)).size+t241.size≤9223372036854775807
   case neg=>
    rw [if_neg c11] at H;cases H
   rw [if_pos c11] at H;have c11b0:=eq_true c11;have c11b1:=ct_ c11;try have c11b2:(9223372036854775807<(((⟨#[40,114,117,108,101,32]⟩:ByteArray)++((rd_T39 l0 x17_1).f0))++(⟨#[32]⟩:ByteArray)).size+t241.size)=False:=eq_false (Nat.not_lt.2 c11)
   try have c11b3:(9223372036854775807<6+((rd_T39 l0 x17_1).f0).size+1+t241.size)=False:=eq_false (by have e0_:(((⟨#[40,114,117,108,101,32]⟩:ByteArray)++((rd_T39 l0 x17_1).f0))++(⟨#[32]⟩:ByteArray)).size=6+((rd_T39 l0 x17_1).f0).size+1:=by { simp only [ByteArray.size_append];first|rfl|omega };omega)
   by_cases c12:x3_1.size+((((⟨#[40,114,117,108,101,32]⟩:ByteArray)++((rd_T39 l0 x17_1).f0))++(⟨#[32]⟩:ByteArray))++t241).size≤9223372036854775807
   case neg=>
    rw [if_neg c12] at H;cases H
   rw [if_pos c12] at H;have c12b0:=eq_true c12;have c12b1:=ct_ c12;try have c12b2:(9223372036854775807<x3_1.size+((((⟨#[40,114,117,108,101,32]⟩:ByteArray)++((rd_T39 l0 x17_1).f0))++(⟨#[32]⟩:ByteArray))++t241).size)=False:=eq_false (Nat.not_lt.2 c12)
   try have c12b3:(9223372036854775807<x3_1.size+(6+((rd_T39 l0 x17_1).f0).size+1+t241.size))=False:=eq_false (by have e1_:((((⟨#[40,114,117,108,101,32]⟩:ByteArray)++((rd_T39 l0 x17_1).f0))++(⟨#[32]⟩:ByteArray))++t241).size=6+((rd_T39 l0 x17_1).f0).size+1+t241.size:=by { simp only [ByteArray.size_append];first|rfl|omega };omega)
   have H':=a_ H;clear H;have p239:0≤(x17_1:Int):=md_
   have q239:x17_1<(l0.length:Int):=md_
   obtain ⟨ad239,A239_2,c239_2,A239_3,c239_3,A239_4,c239_4,e239,hx239_0,hx239_1,hx239_2,hx239_3,hx239_4,hl239_2,hi239_2,hl239_3,hi239_3,hl239_4,hi239_4⟩:=at_T39 HR0.out x17_1 p239 q239;cases e239;replace hx239_0:=mx_ HB hx239_0;replace hx239_1:=mx_ HB hx239_1;replace hx239_2:=mx_ HB hx239_2;replace hx239_3:=mx_ HB hx239_3;replace hx239_4:=mx_ HB hx239_4;have HR239_2:=a_ hi239_2;have HC239_2:=a_ hl239_2;clear hi239_2 hl239_2;have HR239_3:=a_ hi239_3;have HC239_3:=a_ hl239_3;clear hi239_3 hl239_3;have HR239_4:=a_ hi239_4;have HC239_4:=a_ hl239_4;clear hi239_4 hl239_4;replace p239:=eq_true p239;replace q239:=eq_true q239;try go_wp2_with (first|((with_reducible refine gate_dst (N:=5) rfl ?_);refine bh_ 5 #[.string (⟨#[]⟩:ByteArray),.int .i64 0,.slice none 0 0,.slice none 0 0,.slice none 0 0] 39 HB ?_;intro gb240 hg w13 BK240 GE240 hb;replace HB:=ms_ HB hb;clear hb hg;replace hz240:=cz5 BK240))
   have n0_:Aside0 ((((((w13.setCell ⟨gb240,0,none⟩ (.string ((rd_T39 l0 x17_1).f0))).setCell ⟨gb240,1,none⟩ (.int .i64 ((rd_T39 l0 x17_1).f1))).setCell ⟨gb240,2,none⟩ (.slice A239_2 ((rd_T39 l0 x17_1).f2).length c239_2)).setCell ⟨gb240,3,none⟩ (.slice A239_3 ((rd_T39 l0 x17_1).f3).length c239_3)).setCell ⟨gb240,4,none⟩ (.slice A239_4 ((rd_T39 l0 x17_1).f4).length c239_4)).heap[gb240]?=some (.cells #[.string ((rd_T39 l0 x17_1).f0),.int .i64 ((rd_T39 l0 x17_1).f1),.slice A239_2 ((rd_T39 l0 x17_1).f2).length c239_2,.slice A239_3 ((rd_T39 l0 x17_1).f3).length c239_3,.slice A239_4 ((rd_T39 l0 x17_1).f4).length c239_4] 39 (0,0))):=⟨mp_ BK240⟩
   have n1_:Aside0 (Below w.heap.size w (((((w13.setCell ⟨gb240,0,none⟩ (.string ((rd_T39 l0 x17_1).f0))).setCell ⟨gb240,1,none⟩ (.int .i64 ((rd_T39 l0 x17_1).f1))).setCell ⟨gb240,2,none⟩ (.slice A239_2 ((rd_T39 l0 x17_1).f2).length c239_2)).setCell ⟨gb240,3,none⟩ (.slice A239_3 ((rd_T39 l0 x17_1).f3).length c239_3)).setCell ⟨gb240,4,none⟩ (.slice A239_4 ((rd_T39 l0 x17_1).f4).length c239_4))):=⟨mb_ HB⟩
   (try clear BK240);(try clear HB);generalize (((((w13.setCell ⟨gb240,0,none⟩ (.string ((rd_T39 l0 x17_1).f0))).setCell ⟨gb240,1,none⟩ (.int .i64 ((rd_T39 l0 x17_1).f1))).setCell ⟨gb240,2,none⟩ (.slice A239_2 ((rd_T39 l0 x17_1).f2).length c239_2)).setCell ⟨gb240,3,none⟩ (.slice A239_3 ((rd_T39 l0 x17_1).f3).length c239_3)).setCell ⟨gb240,4,none⟩ (.slice A239_4 ((rd_T39 l0 x17_1).f4).length c239_4))=w15 at n0_ n1_ ⊢;have BK240:=n0_;have HB:=n1_;clear n0_ n1_;replace BK240:=a_ (blk_drew BK240.out);replace HB:=a_ (below_drew1 HB.out);refine start_ (n:=11) (S:=fun w'=>w'.cell? ⟨gb240,0,none⟩=some (.string ((rd_T39 l0 x17_1).f0))∧w'.cell? ⟨gb240,1,none⟩=some (.int .i64 ((rd_T39 l0 x17_1).f1))∧w'.cell? ⟨gb240,2,none⟩=some (.slice A239_2 ((rd_T39 l0 x17_1).f2).length c239_2)∧w'.cell? ⟨gb240,3,none⟩=some (.slice A239_3 ((rd_T39 l0 x17_1).f3).length c239_3)∧w'.cell? ⟨gb240,4,none⟩=some (.slice A239_4 ((rd_T39 l0 x17_1).f4).length c239_4)) (ds:=[]) b95a_0 (by kernel_rfl) rfl rfl ⟨bk_ BK240 0,bk_ BK240 1,bk_ BK240 2,bk_ BK240 3,bk_ BK240 4⟩ (fun hHeld=>?_);refine with_tabW spec_PrintRules.tab7 spec_PrintRules.bits7 (fun HT_ HW_=>?_);generalize w15.drew=w16 at BK240 HB hHeld ⊢;refine pu_ 0 21 b95a_1 (any_of HT_.out (by kernel_rfl)) ?_;refine pu_ 1 22 b95a_2 (any_of HT_.out (by kernel_rfl)) ?_;refine pu_ 5 26 b95a_3 (any_of HT_.out (by kernel_rfl)) ?_;refine tk_ 2 23 b95a_4 (take_ofW HT_.out HW_.out (by kernel_rfl)) hHeld ?_;refine pu_ 3 24 b95a_5 (any_of HT_.out (by kernel_rfl)) ?_;refine pu_ 4 25 b95a_6 (any_of HT_.out (by kernel_rfl)) ?_;refine tk_ 6 27 b95a_7 (take_ofW HT_.out HW_.out (by kernel_rfl)) hHeld ?_;refine one_ (i:=7) (N:=some 28) b95a_8 rfl rfl (one_of HT_.out (by kernel_rfl)) (by decide) (fun K hK=>?_);refine goes_ Tryz.func38 (by kernel_rfl) rfl #[.int .i64 ((rd_T39 l0 x17_1).f1)] (by rfl) rfl rfl mw_ ?_;with_reducible refine (spec_l1Dec.calls k1 ((rd_T39 l0 x17_1).f1) t241 _ A10.out).mono ?_
   rintro e w17 ⟨rfl,hb⟩;refine ⟨_,rfl,?_⟩;replace BK240:=mk_ BK240 hb;replace HB:=ms_ HB hb;(try clear hb);(try clear hb2);(try clear hk);(try clear hi);refine hK.out _ _ (bc5 BK240) fun hHeld=>?_
   clear hK K;refine nm_ 28 ?_;refine pu_ 8 29 b95a_9 (any_of HT_.out (by kernel_rfl)) ?_;refine pu_ 9 30 b95a_10 (any_of HT_.out (by kernel_rfl)) ?_;refine pu_ 10 3 b95a_11 (any_of HT_.out (by kernel_rfl)) ?_;refine done_ (done_of HT_.out (by kernel_rfl)) ?_;replace hz240:=cz5 BK240;try go_wp2
   go_loopg [3,34] k1 (fun kq v3 v34 w'=>∃(x3_2:ByteArray) (x34_2:Int),v3=.string x3_2∧v34=.int .i64 x34_2∧Aside0 (spec_PrintRules.l1 kq x3_2 l0 (l0.length:Int) x17_1 ((rd_T39 l0 x17_1).f2) (((rd_T39 l0 x17_1).f2).length:Int) x34_2 ((rd_T39 l0 x17_1).f0) ((rd_T39 l0 x17_1).f1) ((rd_T39 l0 x17_1).f2) ((rd_T39 l0 x17_1).f3) ((rd_T39 l0 x17_1).f4)=some r)∧Aside0 (kq≤k1)∧Aside0 (w'.heap[gb240]?=some (.cells #[.string ((rd_T39 l0 x17_1).f0),.int .i64 ((rd_T39 l0 x17_1).f1),(.slice A239_2 ((rd_T39 l0 x17_1).f2).length c239_2),(.slice A239_3 ((rd_T39 l0 x17_1).f3).length c239_3),(.slice A239_4 ((rd_T39 l0 x17_1).f4).length c239_4)] 39 (0,0)))∧Aside0 (Below w.heap.size w w'))
   case atStart=>exact ⟨(x3_1++((((⟨#[40,114,117,108,101,32]⟩:ByteArray)++((rd_T39 l0 x17_1).f0))++(⟨#[32]⟩:ByteArray))++t241)),(0),mq_,mq_,H',⟨Nat.le_refl _⟩,⟨mc_ BK240⟩,⟨mb_ HB⟩⟩
   clear H';(try clear c5b0);(try clear c6b0);(try clear c7b0);(try clear c8);(try clear c8b0);(try clear c8b1);(try clear c8b2);(try clear c9);(try clear c9b0);(try clear c9b1);(try clear c9b2);(try clear c11);(try clear c11b0);(try clear c11b1);(try clear c11b2);(try clear c12);(try clear c12b0);(try clear c12b1);(try clear c12b2);(try clear hx239_0);(try clear hx239_1);(try clear hx239_2);(try clear hx239_3);(try clear hx239_4);(try clear p239);(try clear q239);obtain ⟨x3_2,x34_2,rfl,rfl,HA,HK2,BK240,HB⟩:=hrel;obtain _|k2:=gk
   ·exact absurd HA.out (by simp [spec_PrintRules.l1])
   have H:=HA.out;clear HA;simp only [spec_PrintRules.l1] at H;by_cases c19:x34_2<(((rd_T39 l0 x17_1).f2).length:Int)
   ·rw [if_pos c19] at H;have c19b0:=ct_ c19;clear c19;by_cases c20:0≤x34_2
    case neg=>
     rw [if_neg c20] at H;cases H
    rw [if_pos c20] at H;have c20b0:=ct_ c20;clear c20;by_cases c21:x34_2<(((rd_T39 l0 x17_1).f2).length:Int)
    case neg=>
     rw [if_neg c21] at H;cases H
    rw [if_pos c21] at H;have c21b0:=ct_ c21;clear c21;by_cases c22:x3_2.size+4≤9223372036854775807
    case neg=>
     rw [if_neg c22] at H;cases H
    rw [if_pos c22] at H;have c22b0:=eq_true c22;have c22b1:=ct_ c22;try have c22b2:(9223372036854775807<x3_2.size+4)=False:=eq_false (Nat.not_lt.2 c22)
    have HC23:=a_ H;clear H;have p242:0≤(x34_2:Int):=md_
    have q242:x34_2<(((rd_T39 l0 x17_1).f2).length:Int):=md_
    obtain ⟨ad242,A242_2,c242_2,e242,hx242_0,hx242_1,hx242_2,hl242_2,hi242_2⟩:=at_T42 HR239_2.out x34_2 p242 q242;cases e242;replace hx242_0:=mx_ HB hx242_0;replace hx242_1:=mx_ HB hx242_1;replace hx242_2:=mx_ HB hx242_2;have HR242_2:=a_ hi242_2;have HC242_2:=a_ hl242_2;clear hi242_2 hl242_2;replace p242:=eq_true p242;replace q242:=eq_true q242;go_upto_if 41 with (first|((with_reducible refine gate_dst (N:=7) rfl ?_);refine bh_ 7 #[.bool false,.string (⟨#[]⟩:ByteArray),.slice none 0 0] 42 HB ?_;intro gb243 hg w24 BK243 GE243 hb;obtain ⟨NB240_243,NB243_240⟩:=mn_ BK240 hg;replace BK240:=mk_ BK240 hb;replace HB:=ms_ HB hb;clear hb hg;have nNB243_240:=NB243_240.out;have nNB240_243:=NB240_243.out;replace hz243:=cz3 BK243))
    (try simp only [Act.put,ps_]);go_cut [3] (fun v3 wc=>∃(kq:Nat) (x3_22:ByteArray),v3=.string x3_22∧Aside0 (spec_PrintRules.j2 kq x3_22 l0 (l0.length:Int) x17_1 ((rd_T39 l0 x17_1).f2) (((rd_T39 l0 x17_1).f2).length:Int) x34_2 ((rd_T39 l0 x17_1).f0) ((rd_T39 l0 x17_1).f1) ((rd_T39 l0 x17_1).f2) ((rd_T39 l0 x17_1).f3) ((rd_T39 l0 x17_1).f4) ((rd_T42 ((rd_T39 l0 x17_1).f2) x34_2).f0) ((rd_T42 ((rd_T39 l0 x17_1).f2) x34_2).f1) ((rd_T42 ((rd_T39 l0 x17_1).f2) x34_2).f2)=some r)∧Aside0 (kq≤k2)∧Aside0 (wc.heap[gb240]?=some (.cells #[.string ((rd_T39 l0 x17_1).f0),.int .i64 ((rd_T39 l0 x17_1).f1),(.slice (some ad242) ((rd_T39 l0 x17_1).f2).length c239_2),(.slice A239_3 ((rd_T39 l0 x17_1).f3).length c239_3),(.slice A239_4 ((rd_T39 l0 x17_1).f4).length c239_4)] 39 (0,0)))∧Aside0 (wc.heap[gb243]?=some (.cells #[.bool ((rd_T42 ((rd_T39 l0 x17_1).f2) x34_2).f0),.string ((rd_T42 ((rd_T39 l0 x17_1).f2) x34_2).f1),(.slice A242_2 ((rd_T42 ((rd_T39 l0 x17_1).f2) x34_2).f2).length c242_2)] 42 (0,0)))∧Aside0 (Below w.heap.size w wc))
    case first=>
     have H:=HC23.out;clear HC23;obtain ⟨bq27,hbq27⟩:∃b_:Bool,b_=((rd_T42 ((rd_T39 l0 x17_1).f2) x34_2).f0):=⟨_,rfl⟩;replace H:(if bq27=true then (if (x3_2++(⟨#[10,32,32,40]⟩:ByteArray)).size+4≤9223372036854775807 then (spec_PrintRules.j2 k2 ((x3_2++(⟨#[10,32,32,40]⟩:ByteArray))++(⟨#[110,111,116,32]⟩:ByteArray)) l0 (l0.length:Int) x17_1 ((rd_T39 l0 x17_1).f2) (((rd_T39 l0 x17_1).f2).length:Int) x34_2 ((rd_T39 l0 x17_1).f0) ((rd_T39 l0 x17_1).f1) ((rd_T39 l0 x17_1).f2) ((rd_T39 l0 x17_1).f3) ((rd_T39 l0 x17_1).f4) bq27 ((rd_T42 ((rd_T39 l0 x17_1).f2) x34_2).f1) ((rd_T42 ((rd_T39 l0 x17_1).f2) x34_2).f2)) else (none)) else (spec_PrintRules.j2 k2 (x3_2++(⟨#[10,32,32,40]⟩:ByteArray)) l0 (l0.length:Int) x17_1 ((rd_T39 l0 x17_1).f2) (((rd_T39 l0 x17_1).f2).length:Int) x34_2 ((rd_T39 l0 x17_1).f0) ((rd_T39 l0 x17_1).f1) ((rd_T39 l0 x17_1).f2) ((rd_T39 l0 x17_1).f3) ((rd_T39 l0 x17_1).f4) bq27 ((rd_T42 ((rd_T39 l0 x17_1).f2) x34_2).f1) ((rd_T42 ((rd_T39 l0 x17_1).f2) x34_2).f2)))=some r:=by rw [←hbq27] at H;exact H
     have Nbq27:=a_ hbq27;clear hbq27;(try rw [←Nbq27.out]);by_cases c28:bq27=true
     ·subst c28;rw [if_pos rfl] at H;by_cases c29:(x3_2++(⟨#[10,32,32,40]⟩:ByteArray)).size+4≤9223372036854775807
      case neg=>
       rw [if_neg c29] at H;cases H
      rw [if_pos c29] at H;have c29b0:=eq_true c29;have c29b1:=ct_ c29;try have c29b2:(9223372036854775807<(x3_2++(⟨#[10,32,32,40]⟩:ByteArray)).size+4)=False:=eq_false (Nat.not_lt.2 c29)
      try have c29b3:(9223372036854775807<x3_2.size+4+4)=False:=eq_false (by have e0_:(x3_2++(⟨#[10,32,32,40]⟩:ByteArray)).size=x3_2.size+4:=by { simp only [ByteArray.size_append];first|rfl|omega };omega)
      have H':=a_ H;clear H;go_wp2;go_meet
      case rel=>(rw [←Nbq27.out];exact ⟨_,((x3_2++(⟨#[10,32,32,40]⟩:ByteArray))++(⟨#[110,111,116,32]⟩:ByteArray)),mq_,H',⟨by have:=HK1.out;have:=HK2.out;first|omega|exact Nat.le_refl _⟩,⟨mc_ BK240⟩,⟨mp_ BK243⟩,⟨mb_ HB⟩⟩)
     ·replace c28:=Bool.eq_false_iff.mpr c28;subst c28;rw [if_neg (show ¬(false=true) by decide)] at H;have H':=a_ H;clear H;go_wp2;go_meet
      case rel=>(rw [←Nbq27.out];exact ⟨_,(x3_2++(⟨#[10,32,32,40]⟩:ByteArray)),mq_,H',⟨by have:=HK1.out;have:=HK2.out;first|omega|exact Nat.le_refl _⟩,⟨mc_ BK240⟩,⟨mp_ BK243⟩,⟨mb_ HB⟩⟩)
    clear HC23;(try clear c19b0);(try clear c20b0);(try clear c21b0);(try clear c22);(try clear c22b0);(try clear c22b1);(try clear c22b2);(try clear hx242_0);(try clear hx242_1);(try clear hx242_2);(try clear p242);(try clear q242);obtain ⟨kq,x3_22,rfl,HA,HJ22,BK240,BK243,HB⟩:=hcut;obtain _|kj22:=kq
    ·exact absurd HA.out (by simp [spec_PrintRules.j2])
    have H:=HA.out;clear HA;simp only [spec_PrintRules.j2] at H;by_cases c30:x3_22.size+((rd_T42 ((rd_T39 l0 x17_1).f2) x34_2).f1).size≤9223372036854775807
    case neg=>
     rw [if_neg c30] at H;cases H
    rw [if_pos c30] at H;have c30b0:=eq_true c30;have c30b1:=ct_ c30;try have c30b2:(9223372036854775807<x3_22.size+((rd_T42 ((rd_T39 l0 x17_1).f2) x34_2).f1).size)=False:=eq_false (Nat.not_lt.2 c30)
    have H':=a_ H;clear H;have nNB243_240:=NB243_240.out;have nNB240_243:=NB240_243.out;replace hz243:=cz3 BK243;go_wp2;go_loopg [3,51] kj22 (fun kq v3 v51 w'=>∃(x3_4:ByteArray) (x51_4:Int),v3=.string x3_4∧v51=.int .i64 x51_4∧Aside0 (spec_PrintRules.l2 kq x3_4 l0 (l0.length:Int) x17_1 ((rd_T39 l0 x17_1).f2) (((rd_T39 l0 x17_1).f2).length:Int) x34_2 ((rd_T42 ((rd_T39 l0 x17_1).f2) x34_2).f2) (((rd_T42 ((rd_T39 l0 x17_1).f2) x34_2).f2).length:Int) x51_4 ((rd_T39 l0 x17_1).f0) ((rd_T39 l0 x17_1).f1) ((rd_T39 l0 x17_1).f2) ((rd_T39 l0 x17_1).f3) ((rd_T39 l0 x17_1).f4)=some r)∧Aside0 (kq≤kj22)∧Aside0 (w'.heap[gb240]?=some (.cells #[.string ((rd_T39 l0 x17_1).f0),.int .i64 ((rd_T39 l0 x17_1).f1),(.slice (some ad242) ((rd_T39 l0 x17_1).f2).length c239_2),(.slice A239_3 ((rd_T39 l0 x17_1).f3).length c239_3),(.slice A239_4 ((rd_T39 l0 x17_1).f4).length c239_4)] 39 (0,0)))∧Aside0 (w'.heap[gb243]?=some (.cells #[.bool ((rd_T42 ((rd_T39 l0 x17_1).f2) x34_2).f0),.string ((rd_T42 ((rd_T39 l0 x17_1).f2) x34_2).f1),(.slice A242_2 ((rd_T42 ((rd_T39 l0 x17_1).f2) x34_2).f2).length c242_2)] 42 (0,0)))∧Aside0 (Below w.heap.size w w'))
    case atStart=>exact ⟨(x3_22++((rd_T42 ((rd_T39 l0 x17_1).f2) x34_2).f1)),(0),mq_,mq_,H',⟨Nat.le_refl _⟩,⟨mc_ BK240⟩,⟨mc_ BK243⟩,⟨mb_ HB⟩⟩
    clear H';(try clear c30);(try clear c30b0);(try clear c30b1);(try clear c30b2);obtain ⟨x3_4,x51_4,rfl,rfl,HA,HK4,BK240,BK243,HB⟩:=hrel;obtain _|k4:=gk
    ·exact absurd HA.out (by simp [spec_PrintRules.l2])
    have H:=HA.out;clear HA;simp only [spec_PrintRules.l2] at H;by_cases c33:x51_4<(((rd_T42 ((rd_T39 l0 x17_1).f2) x34_2).f2).length:Int)
    ·rw [if_pos c33] at H;have c33b0:=ct_ c33;clear c33;by_cases c34:0≤x51_4
     case neg=>
      rw [if_neg c34] at H;cases H
     rw [if_pos c34] at H;have c34b0:=ct_ c34;clear c34;by_cases c35:x51_4<(((rd_T42 ((rd_T39 l0 x17_1).f2) x34_2).f2).length:Int)
     case neg=>
      rw [if_neg c35] at H;cases H
     rw [if_pos c35] at H;have c35b0:=ct_ c35;clear c35;obtain ⟨t246,A36,H⟩:=ob_ H;by_cases c37:1+t246.size≤9223372036854775807
     case neg=>
      rw [if_neg c37] at H;cases H
     rw [if_pos c37] at H;have c37b0:=eq_true c37;have c37b1:=ct_ c37;try have c37b2:(9223372036854775807<1+t246.size)=False:=eq_false (Nat.not_lt.2 c37)
     by_cases c38:x3_4.size+((⟨#[32]⟩:ByteArray)++t246).size≤9223372036854775807
     case neg=>
      rw [if_neg c38] at H;cases H
     rw [if_pos c38] at H;have c38b0:=eq_true c38;have c38b1:=ct_ c38;try have c38b2:(9223372036854775807<x3_4.size+((⟨#[32]⟩:ByteArray)++t246).size)=False:=eq_false (Nat.not_lt.2 c38)
     try have c38b3:(9223372036854775807<x3_4.size+(1+t246.size))=False:=eq_false (by have e1_:((⟨#[32]⟩:ByteArray)++t246).size=1+t246.size:=by { simp only [ByteArray.size_append];first|rfl|omega };omega)
     have H':=a_ H;clear H;have p244:0≤(x51_4:Int):=md_
     have q244:x51_4<(((rd_T42 ((rd_T39 l0 x17_1).f2) x34_2).f2).length:Int):=md_
     obtain ⟨ad244,e244,hx244_0,hx244_1,hx244_2,hx244_3,hx244_4,hx244_5⟩:=at_T86 HR242_2.out x51_4 p244 q244;cases e244;replace hx244_0:=mx_ HB hx244_0;replace hx244_1:=mx_ HB hx244_1;replace hx244_2:=mx_ HB hx244_2;replace hx244_3:=mx_ HB hx244_3;replace hx244_4:=mx_ HB hx244_4;replace hx244_5:=mx_ HB hx244_5;replace p244:=eq_true p244;replace q244:=eq_true q244;go_wp2_with (first|((with_reducible refine gate_dst (N:=9) rfl ?_);refine bh_ 9 #[.int .i64 0,.int .i64 0,.string (⟨#[]⟩:ByteArray),.int .i64 0,.int .i64 0,.string (⟨#[]⟩:ByteArray)] 86 HB ?_;intro gb245 hg wx BK245 GE245 hb;obtain ⟨NB240_245,NB245_240⟩:=mn_ BK240 hg;obtain ⟨NB243_245,NB245_243⟩:=mn_ BK243 hg;replace BK240:=mk_ BK240 hb;replace BK243:=mk_ BK243 hb;replace HB:=ms_ HB hb;clear hb hg;have nNB245_240:=NB245_240.out;have nNB240_245:=NB240_245.out;have nNB245_243:=NB245_243.out;have nNB243_245:=NB243_245.out;replace hz245:=cz6 BK245)|((with_reducible refine gate_callee (f:=39) rfl ?_);refine goesL_ (some 57) rfl rfl Tryz.func39 (by kernel_rfl) rfl #[.agg #[.int .i64 ((rd_T86 ((rd_T42 ((rd_T39 l0 x17_1).f2) x34_2).f2) x51_4).f0),.int .i64 ((rd_T86 ((rd_T42 ((rd_T39 l0 x17_1).f2) x34_2).f2) x51_4).f1),.string ((rd_T86 ((rd_T42 ((rd_T39 l0 x17_1).f2) x34_2).f2) x51_4).f2),.int .i64 ((rd_T86 ((rd_T42 ((rd_T39 l0 x17_1).f2) x34_2).f2) x51_4).f3.f0),.int .i64 ((rd_T86 ((rd_T42 ((rd_T39 l0 x17_1).f2) x34_2).f2) x51_4).f3.f1),.string ((rd_T86 ((rd_T42 ((rd_T39 l0 x17_1).f2) x34_2).f2) x51_4).f3.f2)]] rfl mw_ ?_;(with_reducible refine (spec_l2Term.calls k4 ((rd_T86 ((rd_T42 ((rd_T39 l0 x17_1).f2) x34_2).f2) x51_4).f0) ((rd_T86 ((rd_T42 ((rd_T39 l0 x17_1).f2) x34_2).f2) x51_4).f1) ((rd_T86 ((rd_T42 ((rd_T39 l0 x17_1).f2) x34_2).f2) x51_4).f2) ((rd_T86 ((rd_T42 ((rd_T39 l0 x17_1).f2) x34_2).f2) x51_4).f3.f0) ((rd_T86 ((rd_T42 ((rd_T39 l0 x17_1).f2) x34_2).f2) x51_4).f3.f1) ((rd_T86 ((rd_T42 ((rd_T39 l0 x17_1).f2) x34_2).f2) x51_4).f3.f2) t246 _ A36.out).mono ?_);rintro e wx ⟨rfl,hb⟩;refine ⟨_,rfl,?_⟩;replace BK240:=mk_ BK240 hb;replace BK243:=mk_ BK243 hb;replace BK245:=a_ (blk_below (g:=gb245) (o:=.cells #[.int .i64 ((rd_T86 ((rd_T42 ((rd_T39 l0 x17_1).f2) x34_2).f2) x51_4).f0),.int .i64 ((rd_T86 ((rd_T42 ((rd_T39 l0 x17_1).f2) x34_2).f2) x51_4).f1),.string ((rd_T86 ((rd_T42 ((rd_T39 l0 x17_1).f2) x34_2).f2) x51_4).f2),.int .i64 ((rd_T86 ((rd_T42 ((rd_T39 l0 x17_1).f2) x34_2).f2) x51_4).f3.f0),.int .i64 ((rd_T86 ((rd_T42 ((rd_T39 l0 x17_1).f2) x34_2).f2) x51_4).f3.f1),.string ((rd_T86 ((rd_T42 ((rd_T39 l0 x17_1).f2) x34_2).f2) x51_4).f3.f2)] 86 (0,0)) (mp_ BK245) hb);replace HB:=ms_ HB hb;(try clear hb)));go_roundg k4
     case measure=>
      have:=HK1.out
      have:=HK2.out
      have:=HJ22.out
      have:=HK4.out
      omega
     case rel=>exact ⟨(x3_4++((⟨#[32]⟩:ByteArray)++t246)),(wrap64 (x51_4+1)),mq_,mq_,H',⟨by have:=HK1.out;have:=HK2.out;have:=HJ22.out;have:=HK4.out;omega⟩,⟨mc_ BK240⟩,⟨mc_ BK243⟩,⟨mb_ HB⟩⟩
    ·rw [if_neg c33] at H;have c33b0:=cf_ c33;clear c33;by_cases c44:x3_4.size+1≤9223372036854775807
     case neg=>
      rw [if_neg c44] at H;cases H
     rw [if_pos c44] at H;have c44b0:=eq_true c44;have c44b1:=ct_ c44;try have c44b2:(9223372036854775807<x3_4.size+1)=False:=eq_false (Nat.not_lt.2 c44)
     have H':=a_ H;clear H;go_wp2;go_roundg k4
     case measure=>
      have:=HK1.out
      have:=HK2.out
      have:=HJ22.out
      have:=HK4.out
      omega
     case rel=>exact ⟨(x3_4++(⟨#[41]⟩:ByteArray)),(wrap64 (x34_2+1)),mq_,mq_,H',⟨by have:=HK1.out;have:=HK2.out;have:=HJ22.out;have:=HK4.out;omega⟩,⟨mc_ BK240⟩,⟨mb_ HB⟩⟩
   ·rw [if_neg c19] at H;have c19b0:=cf_ c19;clear c19;by_cases c45:x3_2.size+5≤9223372036854775807
    case neg=>
     rw [if_neg c45] at H;cases H
    rw [if_pos c45] at H;have c45b0:=eq_true c45;have c45b1:=ct_ c45;try have c45b2:(9223372036854775807<x3_2.size+5)=False:=eq_false (Nat.not_lt.2 c45)
    have H':=a_ H;clear H;replace hz240:=cz5 BK240;go_wp2;go_loopg [3,69] k2 (fun kq v3 v69 w'=>∃(x3_3:ByteArray) (x69_3:Int),v3=.string x3_3∧v69=.int .i64 x69_3∧Aside0 (spec_PrintRules.l3 kq x3_3 l0 (l0.length:Int) x17_1 ((rd_T39 l0 x17_1).f4) (((rd_T39 l0 x17_1).f4).length:Int) x69_3 ((rd_T39 l0 x17_1).f0) ((rd_T39 l0 x17_1).f1) ((rd_T39 l0 x17_1).f2) ((rd_T39 l0 x17_1).f3) ((rd_T39 l0 x17_1).f4)=some r)∧Aside0 (kq≤k2)∧Aside0 (w'.heap[gb240]?=some (.cells #[.string ((rd_T39 l0 x17_1).f0),.int .i64 ((rd_T39 l0 x17_1).f1),(.slice A239_2 ((rd_T39 l0 x17_1).f2).length c239_2),(.slice A239_3 ((rd_T39 l0 x17_1).f3).length c239_3),(.slice A239_4 ((rd_T39 l0 x17_1).f4).length c239_4)] 39 (0,0)))∧Aside0 (Below w.heap.size w w'))
    case atStart=>exact ⟨(x3_2++(⟨#[10,32,32,61,62]⟩:ByteArray)),(0),mq_,mq_,H',⟨Nat.le_refl _⟩,⟨mc_ BK240⟩,⟨mb_ HB⟩⟩
    clear H';(try clear c19b0);(try clear c45);(try clear c45b0);(try clear c45b1);(try clear c45b2);obtain ⟨x3_3,x69_3,rfl,rfl,HA,HK3,BK240,HB⟩:=hrel;obtain _|k3:=gk
    ·exact absurd HA.out (by simp [spec_PrintRules.l3])
    have H:=HA.out;clear HA;simp only [spec_PrintRules.l3] at H;by_cases c47:x69_3<(((rd_T39 l0 x17_1).f4).length:Int)
    ·rw [if_pos c47] at H;have c47b0:=ct_ c47;clear c47;by_cases c48:0≤x69_3
     case neg=>
      rw [if_neg c48] at H;cases H
     rw [if_pos c48] at H;have c48b0:=ct_ c48;clear c48;by_cases c49:x69_3<(((rd_T39 l0 x17_1).f4).length:Int)
     case neg=>
      rw [if_neg c49] at H;cases H
     rw [if_pos c49] at H;have c49b0:=ct_ c49;clear c49;obtain ⟨t249,A50,H⟩:=ob_ H;by_cases c51:3+t249.size≤9223372036854775807
     case neg=>
      rw [if_neg c51] at H;cases H
     rw [if_pos c51] at H;have c51b0:=eq_true c51;have c51b1:=ct_ c51;try have c51b2:(9223372036854775807<3+t249.size)=False:=eq_false (Nat.not_lt.2 c51)
     by_cases c52:x3_3.size+((⟨#[10,32,32]⟩:ByteArray)++t249).size≤9223372036854775807
     case neg=>
      rw [if_neg c52] at H;cases H
     rw [if_pos c52] at H;have c52b0:=eq_true c52;have c52b1:=ct_ c52;try have c52b2:(9223372036854775807<x3_3.size+((⟨#[10,32,32]⟩:ByteArray)++t249).size)=False:=eq_false (Nat.not_lt.2 c52)
     try have c52b3:(9223372036854775807<x3_3.size+(3+t249.size))=False:=eq_false (by have e1_:((⟨#[10,32,32]⟩:ByteArray)++t249).size=3+t249.size:=by { simp only [ByteArray.size_append];first|rfl|omega };omega)
     have H':=a_ H;clear H;have p247:0≤(x69_3:Int):=md_
     have q247:x69_3<(((rd_T39 l0 x17_1).f4).length:Int):=md_
     obtain ⟨ad247,A247_3,c247_3,e247,hx247_0,hx247_1,hx247_2,hx247_3,hl247_3,hi247_3⟩:=at_T98 HR239_4.out x69_3 p247 q247;cases e247;replace hx247_0:=mx_ HB hx247_0;replace hx247_1:=mx_ HB hx247_1;replace hx247_2:=mx_ HB hx247_2;replace hx247_3:=mx_ HB hx247_3;have HR247_3:=a_ hi247_3;have HC247_3:=a_ hl247_3;clear hi247_3 hl247_3;replace p247:=eq_true p247;replace q247:=eq_true q247;go_wp2_with (first|((with_reducible refine gate_dst (N:=11) rfl ?_);refine bh_ 11 #[.int .i64 0,.int .i64 0,.string (⟨#[]⟩:ByteArray),.slice none 0 0] 98 HB ?_;intro gb248 hg wx BK248 GE248 hb;obtain ⟨NB240_248,NB248_240⟩:=mn_ BK240 hg;replace BK240:=mk_ BK240 hb;replace HB:=ms_ HB hb;clear hb hg;have nNB248_240:=NB248_240.out;have nNB240_248:=NB240_248.out;replace hz248:=cz4 BK248;replace hz240:=cz5 BK240)|((with_reducible refine gate_callee (f:=40) rfl ?_);refine goesL_ (some 76) rfl rfl Tryz.func40 (by kernel_rfl) rfl #[.agg #[.string ((rd_T39 l0 x17_1).f0),.int .i64 ((rd_T39 l0 x17_1).f1),.slice A239_2 ((rd_T39 l0 x17_1).f2).length c239_2,.slice A239_3 ((rd_T39 l0 x17_1).f3).length c239_3,.slice (some ad247) ((rd_T39 l0 x17_1).f4).length c239_4],.agg #[.int .i64 ((rd_T98 ((rd_T39 l0 x17_1).f4) x69_3).f0),.int .i64 ((rd_T98 ((rd_T39 l0 x17_1).f4) x69_3).f1),.string ((rd_T98 ((rd_T39 l0 x17_1).f4) x69_3).f2),.slice A247_3 ((rd_T98 ((rd_T39 l0 x17_1).f4) x69_3).f3).length c247_3]] rfl mw_ ?_;(with_reducible refine (spec_l2Act.calls k3 ((rd_T39 l0 x17_1).f0) ((rd_T39 l0 x17_1).f1) _ _ ((rd_T39 l0 x17_1).f2) _ _ ((rd_T39 l0 x17_1).f3) _ _ ((rd_T39 l0 x17_1).f4) ((rd_T98 ((rd_T39 l0 x17_1).f4) x69_3).f0) ((rd_T98 ((rd_T39 l0 x17_1).f4) x69_3).f1) ((rd_T98 ((rd_T39 l0 x17_1).f4) x69_3).f2) _ _ ((rd_T98 ((rd_T39 l0 x17_1).f4) x69_3).f3) t249 _ ?side1 HC239_2.out ?side3 HC239_3.out ?side5 HC239_4.out ?side7 HC247_3.out A50.out).mono ?_);(case side1=>exact Kd.C_below HR239_2.out (mb_ HB));(case side3=>exact Kd.C_below HR239_3.out (mb_ HB));(case side5=>exact Kd.C_below HR239_4.out (mb_ HB));(case side7=>exact Kd.C_below HR247_3.out (mb_ HB));rintro e wx ⟨rfl,hb⟩;refine ⟨_,rfl,?_⟩;replace BK240:=mk_ BK240 hb;replace BK248:=a_ (blk_below (g:=gb248) (o:=.cells #[.int .i64 ((rd_T98 ((rd_T39 l0 x17_1).f4) x69_3).f0),.int .i64 ((rd_T98 ((rd_T39 l0 x17_1).f4) x69_3).f1),.string ((rd_T98 ((rd_T39 l0 x17_1).f4) x69_3).f2),.slice A247_3 ((rd_T98 ((rd_T39 l0 x17_1).f4) x69_3).f3).length c247_3] 98 (0,0)) (mp_ BK248) hb);replace HB:=ms_ HB hb;(try clear hb)));go_roundg k3
     case measure=>
      have:=HK1.out
      have:=HK2.out
      have:=HK3.out
      omega
     case rel=>exact ⟨(x3_3++((⟨#[10,32,32]⟩:ByteArray)++t249)),(wrap64 (x69_3+1)),mq_,mq_,H',⟨by have:=HK1.out;have:=HK2.out;have:=HK3.out;omega⟩,⟨mc_ BK240⟩,⟨mb_ HB⟩⟩
    ·rw [if_neg c47] at H;have c47b0:=cf_ c47;clear c47;by_cases c58:x3_3.size+2≤9223372036854775807
     case neg=>
      rw [if_neg c58] at H;cases H
     rw [if_pos c58] at H;have c58b0:=eq_true c58;have c58b1:=ct_ c58;try have c58b2:(9223372036854775807<x3_3.size+2)=False:=eq_false (Nat.not_lt.2 c58)
     have H':=a_ H;clear H;go_wp2;go_roundg k3
     case measure=>
      have:=HK1.out
      have:=HK2.out
      have:=HK3.out
      omega
     case rel=>exact ⟨(x3_3++(⟨#[41,10]⟩:ByteArray)),(wrap64 (x17_1+1)),mq_,mq_,H',⟨by have:=HK1.out;have:=HK2.out;have:=HK3.out;omega⟩,⟨mb_ HB⟩⟩
  ·rw [if_neg c5] at H;have c5b0:=cf_ c5;clear c5;obtain rfl:=oi_ H;have kc_:=fun (W:World)=>Lib.run_convert_string_bytes (P:=Tryz.prog) W 9 22 5 x3_1 Tryz.underlying9 Tryz.underlying22 Tryz.underlying5
   go_wp2;go_ret;exact ⟨_,rfl,BR_conv _ _ (below_size (mb_ HB)),below_step (mb_ HB) (below_conv _ _ _)⟩
 ·replace c3:=Bool.eq_false_iff.mpr c3;subst c3;rw [if_neg (show ¬(false=true) by decide)] at H;obtain rfl:=oi_ H;go_enter Tryz.func13,Tryz.ntmps13;go_wp2_with (first|((with_reducible refine gate_callee (f:=37) rfl ?_);refine goesL_ (some 13) rfl rfl Tryz.func37 (by kernel_rfl) rfl #[.slice A0 l0.length c0] rfl mw_ ?_;(with_reducible refine (spec_l2Checked.calls k _ _ l0 false _ ?side1 HC0.out A2.out).mono ?_);(case side1=>repeat (first|exact HR0.out|(with_reducible refine Kd.C_alloc ?_ _)|(with_reducible refine Kd.C_drewN ?_ _)|(with_reducible refine Kd.C_drew ?_)));rintro e wx ⟨rfl,hb⟩;refine ⟨_,rfl,?_⟩;replace HB:=ms_ HB hb;(try clear hb)));go_ret;exact ⟨_,rfl,.inl ⟨rfl,rfl⟩,mb_ HB⟩
end Go.Proofs.YtahambloheoebaaGreatDoor.P
namespace Go.Proofs.YtahambloheoebaaGreatDoor.P
open Go.Proofs.YtahambloheoebaaGreatDoorX
open Go.RowKit Go.Proofs.YtahambloheoebaaGreatDoorW.PrintWords Go.Proofs.YtahambloheoebaaGreatDoorW.PrintLast Go.Proofs.YtahambloheoebaaGreatDoorW.PrintMore
attribute [local go_sem] max2_int min2_int max_two min_two max_three min_three max_four min_four
set_option linter.unusedVariables false
set_option linter.unusedSimpArgs false
def laws_toValue.f (a0_0:Int) (a0_1:Int) (a0_2:ByteArray):Option (Int×Int×ByteArray):=some (a0_0,a0_1,a0_2)
set_option maxHeartbeats 8000000 in
set_option maxRecDepth 100000 in
theorem laws_toValue.calls (a0_0:Int) (a0_1:Int) (a0_2:ByteArray) (r1:Int) (r2:Int) (r3:ByteArray) (w:World) (h:laws_toValue.f a0_0 a0_1 a0_2=some (r1,r2,r3)):
  Calls Tryz.prog 164 #[.agg #[.int .i64 a0_0,.int .i64 a0_1,.string a0_2]] w fun e w'=>e=.returned (.agg #[.int .i64 r1,.int .i64 r2,.string r3])∧Below w.heap.size w w':=by
 have hu183:=Tryz.underlying183;have hu80:=Tryz.underlying80;have HB:=a_ (Below.refl w.heap.size w);have H:(some (a0_0,a0_1,a0_2))=some (r1,r2,r3):=h
 clear h;simp only [Option.some.injEq,Prod.mk.injEq] at H;obtain ⟨rfl,rfl,rfl⟩:=H;go_enter Tryz.func164,Tryz.ntmps164;go_wp2_with (first|((with_reducible refine gate_dst (N:=1) rfl ?_);refine bh_ 1 #[.int .i64 a0_0,.int .i64 a0_1,.string a0_2] 183 HB ?_;intro gb238 hg wx BK238 GE238 hb;replace HB:=ms_ HB hb;clear hb hg)|((with_reducible refine gate_dst (N:=2) rfl ?_);refine bh_ 2 #[.int .i64 0,.int .i64 0,.string (⟨#[]⟩:ByteArray)] 80 HB ?_;intro gb239 hg wx BK239 GE239 hb;obtain ⟨NB238_239,NB239_238⟩:=mn_ BK238 hg;replace BK238:=mk_ BK238 hb;replace HB:=ms_ HB hb;clear hb hg)|((with_reducible refine gate_dst (N:=3) rfl ?_);refine bh_ 3 #[.int .i64 0,.int .i64 0,.string (⟨#[]⟩:ByteArray)] 80 HB ?_;intro gb240 hg wx BK240 GE240 hb;obtain ⟨NB238_240,NB240_238⟩:=mn_ BK238 hg;obtain ⟨NB239_240,NB240_239⟩:=mn_ BK239 hg;replace BK238:=mk_ BK238 hb;replace BK239:=mk_ BK239 hb;replace HB:=ms_ HB hb;clear hb hg;have nNB238_239:=NB238_239.out;have nNB239_238:=NB239_238.out;have nNB238_240:=NB238_240.out;have nNB240_238:=NB240_238.out;replace hz238:=cz3 BK238;have nNB240_239:=NB240_239.out;have nNB239_240:=NB239_240.out;replace hz240:=cz3 BK240;replace hz239:=cz3 BK239));refine bodyPost_ret (results_cell_row rfl _ _ gb239 80 #[.int .i64 a0_0,.int .i64 a0_1,.string a0_2] (0,0) _ rfl (mp_ BK239) Tryz.underlying80 rfl (by kernel_rfl)) rfl ?_;exact ⟨me_,mb_ HB⟩
def laws_toTerm.f (a0_0:Int) (a0_1:Int) (a0_2:ByteArray) (a0_3:Int) (a0_4:Int) (a0_5:ByteArray):Option (Int×Int×ByteArray×Int×Int×ByteArray):=(laws_toValue.f a0_3 a0_4 a0_5).bind fun bt244=>(some (a0_0,a0_1,a0_2,bt244.1,bt244.2.1,bt244.2.2))
set_option maxHeartbeats 8000000 in
set_option maxRecDepth 100000 in
theorem laws_toTerm.calls (a0_0:Int) (a0_1:Int) (a0_2:ByteArray) (a0_3:Int) (a0_4:Int) (a0_5:ByteArray) (r1:Int) (r2:Int) (r3:ByteArray) (r4:Int) (r5:Int) (r6:ByteArray) (w:World) (h:laws_toTerm.f a0_0 a0_1 a0_2 a0_3 a0_4 a0_5=some (r1,r2,r3,r4,r5,r6)):
  Calls Tryz.prog 184 #[.agg #[.int .i64 a0_0,.int .i64 a0_1,.string a0_2,.int .i64 a0_3,.int .i64 a0_4,.string a0_5]] w fun e w'=>e=.returned (.agg #[.int .i64 r1,.int .i64 r2,.string r3,.int .i64 r4,.int .i64 r5,.string r6])∧Below w.heap.size w w':=by
 have hu253:=Tryz.underlying253;have hu86:=Tryz.underlying86;have hu183:=Tryz.underlying183;have hu80:=Tryz.underlying80;have HB:=a_ (Below.refl w.heap.size w);have H:=h;unfold laws_toTerm.f at H
 clear h;obtain ⟨⟨t244,t245,t246⟩,A2,H⟩:=ob_ H;simp only [Option.some.injEq,Prod.mk.injEq] at H;obtain ⟨rfl,rfl,rfl,rfl,rfl,rfl⟩:=H;go_enter Tryz.func184,Tryz.ntmps184;go_wp2_with (first|((with_reducible refine gate_dst (N:=1) rfl ?_);refine bh_ 1 #[.int .i64 a0_0,.int .i64 a0_1,.string a0_2,.int .i64 a0_3,.int .i64 a0_4,.string a0_5] 253 HB ?_;intro gb241 hg wx BK241 GE241 hb;replace HB:=ms_ HB hb;clear hb hg)|((with_reducible refine gate_dst (N:=2) rfl ?_);refine bh_ 2 #[.int .i64 0,.int .i64 0,.string (⟨#[]⟩:ByteArray),.int .i64 0,.int .i64 0,.string (⟨#[]⟩:ByteArray)] 86 HB ?_;intro gb242 hg wx BK242 GE242 hb;obtain ⟨NB241_242,NB242_241⟩:=mn_ BK241 hg;replace BK241:=mk_ BK241 hb;replace HB:=ms_ HB hb;clear hb hg)|((with_reducible refine gate_dst (N:=3) rfl ?_);refine bh_ 3 #[.int .i64 0,.int .i64 0,.string (⟨#[]⟩:ByteArray),.int .i64 0,.int .i64 0,.string (⟨#[]⟩:ByteArray)] 86 HB ?_;intro gb243 hg wx BK243 GE243 hb;obtain ⟨NB241_243,NB243_241⟩:=mn_ BK241 hg;obtain ⟨NB242_243,NB243_242⟩:=mn_ BK242 hg;replace BK241:=mk_ BK241 hb;replace BK242:=mk_ BK242 hb;replace HB:=ms_ HB hb;clear hb hg;have nNB241_242:=NB241_242.out;have nNB242_241:=NB242_241.out;have nNB241_243:=NB241_243.out;have nNB243_241:=NB243_241.out;replace hz241:=cz6 BK241;have nNB243_242:=NB243_242.out;have nNB242_243:=NB242_243.out;replace hz243:=cz6 BK243)|((with_reducible refine gate_callee (f:=164) rfl ?_);refine goesL_ (some 15) rfl rfl Tryz.func164 (by kernel_rfl) rfl #[.agg #[.int .i64 a0_3,.int .i64 a0_4,.string a0_5]] rfl mw_ ?_;(with_reducible refine (laws_toValue.calls a0_3 a0_4 a0_5 t244 t245 t246 _ A2.out).mono ?_);rintro e wx ⟨rfl,hb⟩;refine ⟨_,rfl,?_⟩;replace BK241:=mk_ BK241 hb;replace BK242:=mk_ BK242 hb;replace BK243:=a_ (blk_below (g:=gb243) (o:=.cells #[.int .i64 a0_0,.int .i64 a0_1,.string a0_2,.int .i64 0,.int .i64 0,.string (⟨#[]⟩:ByteArray)] 86 (0,0)) (mp_ BK243) hb);replace HB:=ms_ HB hb;(try clear hb);replace hz243:=cz6 BK243;replace hz242:=cz6 BK242));refine bodyPost_ret (results_cell_row rfl _ _ gb242 86 #[.int .i64 a0_0,.int .i64 a0_1,.string a0_2,.int .i64 t244,.int .i64 t245,.string t246] (0,0) _ rfl (mp_ BK242) Tryz.underlying86 rfl (by kernel_rfl)) rfl ?_;exact ⟨me_,mb_ HB⟩
def laws_toTermS.l0:Nat→List (S253)→List (S86)→Int→Option ((List (S86)))
 | 0,_,_,_=>none
 | k+1,x0,x3,x4=>if x4<(x0.length:Int) then (if 0≤x4 then ((laws_toTerm.f ((rd_T253 x0 x4).f0) ((rd_T253 x0 x4).f1) ((rd_T253 x0 x4).f2) ((rd_T253 x0 x4).f3.f0) ((rd_T253 x0 x4).f3.f1) ((rd_T253 x0 x4).f3.f2)).bind fun bt251=>(if x4<(x3.length:Int) then (laws_toTermS.l0 k x0 (x3.set (x4:Int).toNat (⟨bt251.1,bt251.2.1,bt251.2.2.1,(⟨bt251.2.2.2.1,bt251.2.2.2.2.1,bt251.2.2.2.2.2⟩:S80)⟩:S86)) (wrap64 (x4+1))) else (none))) else (none)) else (some x3)
def laws_toTermS.f (k:Nat) (l0:List (S253)):Option ((List (S86))):=if 0≤(l0.length:Int) then (if ((l0.length:Int):Int).toNat≤4398046511104 then (laws_toTermS.l0 k l0 (List.replicate ((l0.length:Int):Int).toNat z86) 0) else (none)) else (none)
theorem laws_toTermS.mono_l:∀k,(∀y0 y1 y2,LeO (laws_toTermS.l0 k y0 y1 y2) (laws_toTermS.l0 (k+1) y0 y1 y2))
 | 0=>fun _ _ _ r h=>by simp [laws_toTermS.l0] at h
 | k+1=>by
  have ih0:=laws_toTermS.mono_l k
  ·intro y0 y1 y2;unfold laws_toTermS.l0
   repeat' with_reducible first|apply ih0|apply LeO.refl|apply LeO.none|refine LeO.ite ?_ ?_|refine LeO.bind ?_ (fun _=>?_)
theorem laws_toTermS.mono:∀a0 k,LeO (laws_toTermS.f k a0) (laws_toTermS.f (k+1) a0):=by
 intro a0 k;have ih0:=laws_toTermS.mono_l k;unfold laws_toTermS.f
 repeat' with_reducible first|apply ih0|apply LeO.refl|apply LeO.none|refine LeO.ite ?_ ?_|refine LeO.bind ?_ (fun _=>?_)
set_option maxHeartbeats 8000000 in
set_option maxRecDepth 100000 in
theorem laws_toTermS.calls (k:Nat) (A0:Option Addr) (c0:Nat) (l0:List (S253)) (r:List (S86)) (w:World) (hr0:Kd.C k253 w A0 l0.length l0) (hc0:l0.length≤c0) (h:laws_toTermS.f k l0=some r):
  Calls Tryz.prog 163 #[.slice A0 l0.length c0] w fun e w'=>∃v0_:Value,e=.returned (v0_)∧Kd.R k86 86 w' w.heap.size (fun _=>True) v0_ r∧Below w.heap.size w w':=by
 have hu253:=Tryz.underlying253;have hu86:=Tryz.underlying86;have HR0:=a_ hr0;have HC0:=a_ hc0;clear hr0 hc0;have HB:=a_ (Below.refl w.heap.size w);have H:=h;unfold laws_toTermS.f at H
 clear h;by_cases c2:0≤(l0.length:Int)
 case neg=>
  rw [if_neg c2] at H;cases H
 rw [if_pos c2] at H;have c2b0:=eq_true c2;have c2b1:=ct_ c2;clear c2;by_cases c3:((l0.length:Int):Int).toNat≤4398046511104
 case neg=>
  rw [if_neg c3] at H;cases H
 rw [if_pos c3] at H;have c3b0:=eq_true c3;have c3b1:=ct_ c3;clear c3;obtain ⟨y247,hy247⟩:∃y_:List (S86),y_=(List.replicate ((l0.length:Int):Int).toNat z86):=⟨_,rfl⟩;rw [←hy247] at H;(try rw [Option.bind_some] at H);have Ny247:=a_ hy247;clear hy247;have H':=a_ H;clear H;go_enter Tryz.func163,Tryz.ntmps163;go_wp2_with (first|((with_reducible refine gate_dst (N:=7) rfl ?_);refine Kd.R_make k86 _ 86 rfl (N:=7) rfl 40 _ _ rfl (l0.length:Int) rfl rfl Tryz.underlying40 (.agg #[(.int .i64 0),(.int .i64 0),(.string ⟨#[]⟩),(.int .i64 0),(.int .i64 0),(.string ⟨#[]⟩)]) 64 info86 rfl (by decide) (by omega) z86 (ok:=fun _=>True) (okp:=fun _=>True) (k86_mkM _ _ _ z86 ) (fun _ hk=>hk) trivial (md_) (Nat.le_trans (Nat.mul_le_mul_right _ (md_:(l0.length:Int).toNat≤4398046511104)) (by omega)) (Below.refl _ _) (Nat.le_refl _) ?_;intro v248 wx ho5 hb hg_ hnew_;clear hg_ hnew_;(first|rw [←Ny247.out] at ho5|(simp only [Int.reduceToNat] at ho5;rw [←Ny247.out] at ho5));have HO249:=a_ (Kd.R_lower ho5 (below_size (mb_ HB)));replace HB:=ms_ HB hb;clear hb ho5));go_loopg [4] k (fun kq v4 w'=>∃(x3_1:List (S86)) (x4_1:Int),v4=.int .i64 x4_1∧Aside0 (laws_toTermS.l0 kq l0 x3_1 x4_1=some r)∧Aside0 (kq≤k)∧Aside0 (Kd.R k86 86 w' w.heap.size (fun _=>True) v248 x3_1)∧Aside0 (Below w.heap.size w w'))
 case atStart=>exact ⟨(y247),(0),mq_,H',⟨Nat.le_refl _⟩,⟨mo_ HO249.out⟩,⟨mb_ HB⟩⟩
 clear H';(try clear c2b0);(try clear c2b1);(try clear c3b0);(try clear c3b1);obtain ⟨x3_1,x4_1,rfl,HA,HK1,HO_3,HB⟩:=hrel;obtain _|k1:=gk
 ·exact absurd HA.out (by simp [laws_toTermS.l0])
 have H:=HA.out;clear HA;simp only [laws_toTermS.l0] at H;by_cases c6:x4_1<(l0.length:Int)
 ·rw [if_pos c6] at H;have c6b0:=ct_ c6;clear c6;by_cases c7:0≤x4_1
  case neg=>
   rw [if_neg c7] at H;cases H
  rw [if_pos c7] at H;have c7b0:=ct_ c7;clear c7;obtain ⟨⟨t251,t252,t253,t254,t255,t256⟩,A8,H⟩:=ob_ H;by_cases c9:x4_1<(x3_1.length:Int)
  case neg=>
   rw [if_neg c9] at H;cases H
  rw [if_pos c9] at H;have c9b0:=ct_ c9;clear c9;obtain ⟨y257,hy257⟩:∃y_:List (S86),y_=(x3_1.set (x4_1:Int).toNat (⟨t251,t252,t253,(⟨t254,t255,t256⟩:S80)⟩:S86)):=⟨_,rfl⟩;rw [←hy257] at H;(try rw [Option.bind_some] at H);have Ny257:=a_ hy257;clear hy257;have H':=a_ H;clear H;have p250:0≤(x4_1:Int):=md_
  have q250:x4_1<(l0.length:Int):=md_
  obtain ⟨ad250,e250,hx250_0,hx250_1,hx250_2,hx250_3,hx250_4,hx250_5⟩:=at_T253 HR0.out x4_1 p250 q250;cases e250;replace hx250_0:=mx_ HB hx250_0;replace hx250_1:=mx_ HB hx250_1;replace hx250_2:=mx_ HB hx250_2;replace hx250_3:=mx_ HB hx250_3;replace hx250_4:=mx_ HB hx250_4;replace hx250_5:=mx_ HB hx250_5;replace p250:=eq_true p250;replace q250:=eq_true q250;go_wp2_with (first|((with_reducible refine gate_callee (f:=184) rfl ?_);refine goesL_ (some 20) rfl rfl Tryz.func184 (by kernel_rfl) rfl #[.agg #[.int .i64 ((rd_T253 l0 x4_1).f0),.int .i64 ((rd_T253 l0 x4_1).f1),.string ((rd_T253 l0 x4_1).f2),.int .i64 ((rd_T253 l0 x4_1).f3.f0),.int .i64 ((rd_T253 l0 x4_1).f3.f1),.string ((rd_T253 l0 x4_1).f3.f2)]] rfl mw_ ?_;(with_reducible refine (laws_toTerm.calls ((rd_T253 l0 x4_1).f0) ((rd_T253 l0 x4_1).f1) ((rd_T253 l0 x4_1).f2) ((rd_T253 l0 x4_1).f3.f0) ((rd_T253 l0 x4_1).f3.f1) ((rd_T253 l0 x4_1).f3.f2) t251 t252 t253 t254 t255 t256 _ A8.out).mono ?_);rintro e w11 ⟨rfl,hb⟩;refine ⟨_,rfl,?_⟩;replace HO_3:=ro_ HO_3 hb;replace HB:=ms_ HB hb;(try clear hb);have p10:0≤(x4_1:Int):=md_;have q10:(x4_1:Int)<((x3_1.length:Int):Int):=md_;obtain ⟨go10,co10,eo10,gb10,gl10,cl10,HG10⟩:=Kd.R_form HO_3.out (by omega);(first|cases eo10|(injection eo10 with ea_ en_ ec_;(first|subst ea_|(injection ea_ with ea_;subst ea_));subst ec_;clear en_));have GB10:=a_ gb10;have GG10:=a_ HG10;clear gb10 gl10 HG10;obtain ⟨ce10,hcl10,hM10,hcc10,hfr10⟩:=Kd.R_elem HO_3.out z86 (x4_1:Int) p10 q10;obtain rfl:=k86_openM hM10;have hx10_0:w11.cell? ⟨go10,(x4_1:Int).toNat*6,none⟩=some (.int .i64 ((rd_T86 x3_1 x4_1).f0)):=hcc10 0 _ rfl;have hx10_1:w11.cell? ⟨go10,(x4_1:Int).toNat*6+1,none⟩=some (.int .i64 ((rd_T86 x3_1 x4_1).f1)):=hcc10 1 _ rfl;have hx10_2:w11.cell? ⟨go10,(x4_1:Int).toNat*6+2,none⟩=some (.string ((rd_T86 x3_1 x4_1).f2)):=hcc10 2 _ rfl;have hx10_3:w11.cell? ⟨go10,(x4_1:Int).toNat*6+3,none⟩=some (.int .i64 ((rd_T86 x3_1 x4_1).f3.f0)):=hcc10 3 _ rfl;have hx10_4:w11.cell? ⟨go10,(x4_1:Int).toNat*6+4,none⟩=some (.int .i64 ((rd_T86 x3_1 x4_1).f3.f1)):=hcc10 4 _ rfl;have hx10_5:w11.cell? ⟨go10,(x4_1:Int).toNat*6+5,none⟩=some (.string ((rd_T86 x3_1 x4_1).f3.f2)):=hcc10 5 _ rfl;have hf10_0:w11.frozen? ⟨go10,(x4_1:Int).toNat*6,none⟩=false:=hfr10 0;have hf10_1:w11.frozen? ⟨go10,(x4_1:Int).toNat*6+1,none⟩=false:=hfr10 1;have hf10_2:w11.frozen? ⟨go10,(x4_1:Int).toNat*6+2,none⟩=false:=hfr10 2;have hf10_3:w11.frozen? ⟨go10,(x4_1:Int).toNat*6+3,none⟩=false:=hfr10 3;have hf10_4:w11.frozen? ⟨go10,(x4_1:Int).toNat*6+4,none⟩=false:=hfr10 4;have hf10_5:w11.frozen? ⟨go10,(x4_1:Int).toNat*6+5,none⟩=false:=hfr10 5;clear hcl10 hcc10 hfr10;(try clear hM10);replace p10:=eq_true p10;replace q10:=eq_true q10;have HX12:=a_ (show Kd.R k86 86 w11 w.heap.size (fun _=>True) (.slice (some ⟨go10,0,none⟩) x3_1.length co10) x3_1 from (mo_ HO_3.out));obtain ⟨ce12,hcl12,hM12,hcc12,hfr12⟩:=Kd.R_elem HX12.out z86 (x4_1:Int) (md_) (by have h_:(x4_1:Int)<((x3_1.length:Int):Int):=md_;first|exact h_|(have e_:=(Kd.R_reads' HO_3.out).1;omega)|simpa using h_);obtain rfl:=k86_openM hM12;have HP12:=Kd.R_seg HX12.out (x4_1:Int) (md_) (by have h_:(x4_1:Int)<((x3_1.length:Int):Int):=md_;first|exact h_|(have e_:=(Kd.R_reads' HO_3.out).1;omega)|simpa using h_) (seg:=[.int .i64 t251,.int .i64 t252,.string t253,.int .i64 t254,.int .i64 t255,.string t256]) (j:=0) hcl12 hcc12 (show 6≤6 from by decide) (x':=(⟨t251,t252,t253,(⟨t254,t255,t256⟩:S80)⟩:S86)) (k86_mkM _ _ _ (⟨t251,t252,t253,(⟨t254,t255,t256⟩:S80)⟩:S86) ) (fun _ hk=>hk);have hx12_0:=hcc12 0 _ rfl;(try simp only [show (k86).sz=6 from rfl,Nat.mul_one,Nat.add_zero] at hx12_0);have hf12_0:=hfr12 0;(try simp only [show (k86).sz=6 from rfl,Nat.mul_one,Nat.add_zero] at hf12_0);have hx12_1:=hcc12 1 _ rfl;(try simp only [show (k86).sz=6 from rfl,Nat.mul_one,Nat.add_zero] at hx12_1);have hf12_1:=hfr12 1;(try simp only [show (k86).sz=6 from rfl,Nat.mul_one,Nat.add_zero] at hf12_1);have hx12_2:=hcc12 2 _ rfl;(try simp only [show (k86).sz=6 from rfl,Nat.mul_one,Nat.add_zero] at hx12_2);have hf12_2:=hfr12 2;(try simp only [show (k86).sz=6 from rfl,Nat.mul_one,Nat.add_zero] at hf12_2);have hx12_3:=hcc12 3 _ rfl;(try simp only [show (k86).sz=6 from rfl,Nat.mul_one,Nat.add_zero] at hx12_3);have hf12_3:=hfr12 3;(try simp only [show (k86).sz=6 from rfl,Nat.mul_one,Nat.add_zero] at hf12_3);have hx12_4:=hcc12 4 _ rfl;(try simp only [show (k86).sz=6 from rfl,Nat.mul_one,Nat.add_zero] at hx12_4);have hf12_4:=hfr12 4;(try simp only [show (k86).sz=6 from rfl,Nat.mul_one,Nat.add_zero] at hf12_4);have hx12_5:=hcc12 5 _ rfl;(try simp only [show (k86).sz=6 from rfl,Nat.mul_one,Nat.add_zero] at hx12_5);have hf12_5:=hfr12 5;(try simp only [show (k86).sz=6 from rfl,Nat.mul_one,Nat.add_zero] at hf12_5);clear hcl12 hcc12 hfr12;(try clear hM12))|((with_reducible refine gate_store (t:=86) (p:=21) rfl ?_);refine store_event (t:=86) (p:=21) (v:=?vo_w13) (w1:=((((((w11.setCell ⟨go10,(x4_1:Int).toNat*6,none⟩ (.int .i64 t251)).setCell ⟨go10,(x4_1:Int).toNat*6+1,none⟩ (.int .i64 t252)).setCell ⟨go10,(x4_1:Int).toNat*6+2,none⟩ (.string t253)).setCell ⟨go10,(x4_1:Int).toNat*6+3,none⟩ (.int .i64 t254)).setCell ⟨go10,(x4_1:Int).toNat*6+4,none⟩ (.int .i64 t255)).setCell ⟨go10,(x4_1:Int).toNat*6+5,none⟩ (.string t256))) ?hg ?ho ?hn ?hr ?_;(case ho=>rfl);(case hg=>rfl);(case hn=>rfl);(case hr=>first|(go_simp;done)|(go_simp;rfl));intro wx hw;have hg:w11.grownBy wx (some go10):=(by rw [hw];exact HP12.2);have hp_:Kd.R k86 86 wx w.heap.size (fun _=>True) (.slice (some ⟨go10,0,none⟩) x3_1.length co10) y257:=(by rw [hw,Ny257.out];exact HP12.1);clear HP12;replace HO_3:=a_ (hp_);replace HB:=a_ ((by rw [hw];exact below_set (below_set (below_set (below_set (below_set (below_set (HB.out) GB10.out) GB10.out) GB10.out) GB10.out) GB10.out) GB10.out:Below w.heap.size w wx));clear hg hw hp_))
  go_roundg k1
  case measure=>
   have:=HK1.out
   omega
  case rel=>exact ⟨(y257),(wrap64 (x4_1+1)),mq_,H',⟨by have:=HK1.out;omega⟩,⟨mo_ HO_3.out⟩,⟨mb_ HB⟩⟩
 ·rw [if_neg c6] at H;have c6b0:=cf_ c6;clear c6;obtain rfl:=oi_ H;go_wp2;go_ret;exact ⟨_,me_,mo_ HO_3.out,mb_ HB⟩
def laws_toPattern.f (k:Nat) (a0_0:Bool) (a0_1:ByteArray) (l0_2:List (S253)):Option (Bool×ByteArray×(List (S86))):=(laws_toTermS.f k l0_2).bind fun t261=>(some (a0_0,a0_1,t261))
theorem laws_toPattern.mono:∀a0 a1 a2 k,LeO (laws_toPattern.f k a0 a1 a2) (laws_toPattern.f (k+1) a0 a1 a2):=by
 intro a0 a1 a2 k;unfold laws_toPattern.f
 repeat' with_reducible first|apply laws_toTermS.mono|apply LeO.refl|apply LeO.none|refine LeO.ite ?_ ?_|refine LeO.bind ?_ (fun _=>?_)
set_option maxHeartbeats 8000000 in
set_option maxRecDepth 100000 in
theorem laws_toPattern.calls (k:Nat) (a0_0:Bool) (a0_1:ByteArray) (A0_2:Option Addr) (c0_2:Nat) (l0_2:List (S253)) (r1:Bool) (r2:ByteArray) (r3:List (S86)) (w:World) (hr0_2:Kd.C k253 w A0_2 l0_2.length l0_2) (hc0_2:l0_2.length≤c0_2) (h:laws_toPattern.f k a0_0 a0_1 l0_2=some (r1,r2,r3)):
  Calls Tryz.prog 131 #[.agg #[.bool a0_0,.string a0_1,.slice A0_2 l0_2.length c0_2]] w fun e w'=>∃v2_:Value,e=.returned (.agg #[.bool r1,.string r2,v2_])∧Kd.R k86 86 w' w.heap.size (fun _=>True) v2_ r3∧Below w.heap.size w w':=by
 have hu181:=Tryz.underlying181;have hu42:=Tryz.underlying42;have HR0_2:=a_ hr0_2;have HC0_2:=a_ hc0_2;clear hr0_2 hc0_2;have HB:=a_ (Below.refl w.heap.size w);have H:((laws_toTermS.f k l0_2).bind fun t261=>(some (a0_0,a0_1,t261)))=some (r1,r2,r3):=h
 clear h;obtain ⟨t261,A2,H⟩:=ob_ H;simp only [Option.some.injEq,Prod.mk.injEq] at H;obtain ⟨rfl,rfl,rfl⟩:=H;go_enter Tryz.func131,Tryz.ntmps131;go_wp2_with (first|((with_reducible refine gate_dst (N:=1) rfl ?_);refine bh_ 1 #[.bool a0_0,.string a0_1,.slice A0_2 l0_2.length c0_2] 181 HB ?_;intro gb258 hg wx BK258 GE258 hb;replace HB:=ms_ HB hb;clear hb hg)|((with_reducible refine gate_dst (N:=2) rfl ?_);refine bh_ 2 #[.bool false,.string (⟨#[]⟩:ByteArray),.slice none 0 0] 42 HB ?_;intro gb259 hg wx BK259 GE259 hb;obtain ⟨NB258_259,NB259_258⟩:=mn_ BK258 hg;replace BK258:=mk_ BK258 hb;replace HB:=ms_ HB hb;clear hb hg)|((with_reducible refine gate_dst (N:=3) rfl ?_);refine bh_ 3 #[.bool false,.string (⟨#[]⟩:ByteArray),.slice none 0 0] 42 HB ?_;intro gb260 hg wx BK260 GE260 hb;obtain ⟨NB258_260,NB260_258⟩:=mn_ BK258 hg;obtain ⟨NB259_260,NB260_259⟩:=mn_ BK259 hg;replace BK258:=mk_ BK258 hb;replace BK259:=mk_ BK259 hb;replace HB:=ms_ HB hb;clear hb hg;have nNB258_259:=NB258_259.out;have nNB259_258:=NB259_258.out;have nNB258_260:=NB258_260.out;have nNB260_258:=NB260_258.out;replace hz258:=cz3 BK258;have nNB260_259:=NB260_259.out;have nNB259_260:=NB259_260.out;replace hz260:=cz3 BK260)|((with_reducible refine gate_callee (f:=163) rfl ?_);refine goesL_ (some 12) rfl rfl Tryz.func163 (by kernel_rfl) rfl #[.slice A0_2 l0_2.length c0_2] rfl mw_ ?_;(with_reducible refine (laws_toTermS.calls k _ _ l0_2 t261 _ ?side1 HC0_2.out A2.out).mono ?_);(case side1=>exact Kd.C_below HR0_2.out (mb_ HB));rintro e wx ⟨v262,rfl,ho0,hb⟩;refine ⟨_,rfl,?_⟩;have HO263:=a_ (Kd.R_lower ho0 (below_size (mb_ HB)));replace BK258:=mk_ BK258 hb;replace BK259:=mk_ BK259 hb;replace BK260:=a_ (blk_below (g:=gb260) (o:=.cells #[.bool a0_0,.string a0_1,.slice none 0 0] 42 (0,0)) (mp_ BK260) hb);replace HB:=ms_ HB hb;(try clear hb ho0);obtain ⟨Ao12,co12,eo12⟩:=Kd.R_slice HO263.out;subst eo12;replace hz260:=cz3 BK260;replace hz259:=cz3 BK259));refine bodyPost_ret (results_cell_row rfl _ _ gb259 42 #[.bool a0_0,.string a0_1,.slice Ao12 t261.length co12] (0,0) _ rfl (mp_ BK259) Tryz.underlying42 rfl (by kernel_rfl)) rfl ?_;exact ⟨_,me_,mo_ (Kd.R_mono (Kd.R_far (p:=⟨gb259,2,none⟩) (Kd.R_far (p:=⟨gb259,1,none⟩) (Kd.R_far (p:=⟨gb259,0,none⟩) (Kd.R_far (p:=⟨gb260,2,none⟩) (Kd.R_types (Kd.R_types HO263.out BK260.out (by decide)) BK259.out (by decide)) (fun _ hk=>hk.1.2) (.slice Ao12 t261.length co12)) (fun _ hk=>hk.2) (.bool a0_0)) (fun _ hk=>hk.2) (.string a0_1)) (fun _ hk=>hk.2) (.slice Ao12 t261.length co12)) (fun _ hk=>trivial)),mb_ HB⟩
def laws_toPatternS.l0:Nat→List (S181)→List (S42)→Int→Option ((List (S42)))
 | 0,_,_,_=>none
 | k+1,x0,x3,x4=>if x4<(x0.length:Int) then (if 0≤x4 then ((laws_toPattern.f k ((rd_T181 x0 x4).f0) ((rd_T181 x0 x4).f1) ((rd_T181 x0 x4).f2)).bind fun bt268=>(if x4<(x3.length:Int) then (laws_toPatternS.l0 k x0 (x3.set (x4:Int).toNat (⟨bt268.1,bt268.2.1,bt268.2.2⟩:S42)) (wrap64 (x4+1))) else (none))) else (none)) else (some x3)
def laws_toPatternS.f (k:Nat) (l0:List (S181)):Option ((List (S42))):=if 0≤(l0.length:Int) then (if ((l0.length:Int):Int).toNat≤5864062014805 then (laws_toPatternS.l0 k l0 (List.replicate ((l0.length:Int):Int).toNat z42) 0) else (none)) else (none)
theorem laws_toPatternS.mono_l:∀k,(∀y0 y1 y2,LeO (laws_toPatternS.l0 k y0 y1 y2) (laws_toPatternS.l0 (k+1) y0 y1 y2))
 | 0=>fun _ _ _ r h=>by simp [laws_toPatternS.l0] at h
 | k+1=>by
  have ih0:=laws_toPatternS.mono_l k
  ·intro y0 y1 y2;unfold laws_toPatternS.l0
   repeat' with_reducible first|apply ih0|apply laws_toPattern.mono|apply LeO.refl|apply LeO.none|refine LeO.ite ?_ ?_|refine LeO.bind ?_ (fun _=>?_)
theorem laws_toPatternS.mono:∀a0 k,LeO (laws_toPatternS.f k a0) (laws_toPatternS.f (k+1) a0):=by
 intro a0 k;have ih0:=laws_toPatternS.mono_l k;unfold laws_toPatternS.f
 repeat' with_reducible first|apply ih0|apply laws_toPattern.mono|apply LeO.refl|apply LeO.none|refine LeO.ite ?_ ?_|refine LeO.bind ?_ (fun _=>?_)
set_option maxHeartbeats 8000000 in
set_option maxRecDepth 100000 in
theorem laws_toPatternS.calls (k:Nat) (A0:Option Addr) (c0:Nat) (l0:List (S181)) (r:List (S42)) (w:World) (hr0:Kd.C k181 w A0 l0.length l0) (hc0:l0.length≤c0) (h:laws_toPatternS.f k l0=some r):
  Calls Tryz.prog 83 #[.slice A0 l0.length c0] w fun e w'=>∃v0_:Value,e=.returned (v0_)∧Kd.S k42 42 w' w.heap.size (fun _=>True) v0_ r∧Below w.heap.size w w':=by
 have hu181:=Tryz.underlying181;have hu42:=Tryz.underlying42;have HR0:=a_ hr0;have HC0:=a_ hc0;clear hr0 hc0;have HB:=a_ (Below.refl w.heap.size w);have H:=h;unfold laws_toPatternS.f at H
 clear h;by_cases c2:0≤(l0.length:Int)
 case neg=>
  rw [if_neg c2] at H;cases H
 rw [if_pos c2] at H;have c2b0:=eq_true c2;have c2b1:=ct_ c2;clear c2;by_cases c3:((l0.length:Int):Int).toNat≤5864062014805
 case neg=>
  rw [if_neg c3] at H;cases H
 rw [if_pos c3] at H;have c3b0:=eq_true c3;have c3b1:=ct_ c3;clear c3;obtain ⟨y264,hy264⟩:∃y_:List (S42),y_=(List.replicate ((l0.length:Int):Int).toNat z42):=⟨_,rfl⟩;rw [←hy264] at H;(try rw [Option.bind_some] at H);have Ny264:=a_ hy264;clear hy264;have H':=a_ H;clear H;go_enter Tryz.func83,Tryz.ntmps83;go_wp2_with (first|((with_reducible refine gate_dst (N:=7) rfl ?_);refine Kd.S_make k42 _ 42 rfl (N:=7) rfl 35 _ _ rfl (l0.length:Int) rfl rfl Tryz.underlying35 (.agg #[(.bool false),(.string ⟨#[]⟩),(.slice none 0 0)]) 48 info42 rfl (by decide) (by omega) z42 (ok:=fun _=>True) (okp:=fun _=>True) (k42_mkM _ _ _ z42 (Kd.R_nil _ _ _ _ _)) (fun _ hk=>hk) trivial (md_) (Nat.le_trans (Nat.mul_le_mul_right _ (md_:(l0.length:Int).toNat≤5864062014805)) (by omega)) (Below.refl _ _) (Nat.le_refl _) ?_;intro v265 wx ho5 hb hg_ hnew_;clear hg_ hnew_;(first|rw [←Ny264.out] at ho5|(simp only [Int.reduceToNat] at ho5;rw [←Ny264.out] at ho5));have HO266:=a_ (Kd.S_lower ho5 (below_size (mb_ HB)));replace HB:=ms_ HB hb;clear hb ho5));go_loopg [4] k (fun kq v4 w'=>∃(x3_1:List (S42)) (x4_1:Int),v4=.int .i64 x4_1∧Aside0 (laws_toPatternS.l0 kq l0 x3_1 x4_1=some r)∧Aside0 (kq≤k)∧Aside0 (Kd.S k42 42 w' w.heap.size (fun _=>True) v265 x3_1)∧Aside0 (Below w.heap.size w w'))
 case atStart=>exact ⟨(y264),(0),mq_,H',⟨Nat.le_refl _⟩,⟨by (with_reducible repeat (first|apply Kd.S_alloc|apply Kd.S_drewN|apply Kd.S_drew));exact HO266.out⟩,⟨mb_ HB⟩⟩
 clear H';(try clear c2b0);(try clear c2b1);(try clear c3b0);(try clear c3b1);obtain ⟨x3_1,x4_1,rfl,HA,HK1,HO_3,HB⟩:=hrel;obtain _|k1:=gk
 ·exact absurd HA.out (by simp [laws_toPatternS.l0])
 have H:=HA.out;clear HA;simp only [laws_toPatternS.l0] at H;by_cases c6:x4_1<(l0.length:Int)
 ·rw [if_pos c6] at H;have c6b0:=ct_ c6;clear c6;by_cases c7:0≤x4_1
  case neg=>
   rw [if_neg c7] at H;cases H
  rw [if_pos c7] at H;have c7b0:=ct_ c7;clear c7;obtain ⟨⟨t268,t269,t270⟩,A8,H⟩:=ob_ H;by_cases c9:x4_1<(x3_1.length:Int)
  case neg=>
   rw [if_neg c9] at H;cases H
  rw [if_pos c9] at H;have c9b0:=ct_ c9;clear c9;obtain ⟨y273,hy273⟩:∃y_:List (S42),y_=(x3_1.set (x4_1:Int).toNat (⟨t268,t269,t270⟩:S42)):=⟨_,rfl⟩;rw [←hy273] at H;(try rw [Option.bind_some] at H);have Ny273:=a_ hy273;clear hy273;have H':=a_ H;clear H;have p267:0≤(x4_1:Int):=md_
  have q267:x4_1<(l0.length:Int):=md_
  obtain ⟨ad267,A267_2,c267_2,e267,hx267_0,hx267_1,hx267_2,hl267_2,hi267_2⟩:=at_T181 HR0.out x4_1 p267 q267;cases e267;replace hx267_0:=mx_ HB hx267_0;replace hx267_1:=mx_ HB hx267_1;replace hx267_2:=mx_ HB hx267_2;have HR267_2:=a_ hi267_2;have HC267_2:=a_ hl267_2;clear hi267_2 hl267_2;replace p267:=eq_true p267;replace q267:=eq_true q267;go_wp2_with (first|((with_reducible refine gate_callee (f:=131) rfl ?_);refine goesL_ (some 20) rfl rfl Tryz.func131 (by kernel_rfl) rfl #[.agg #[.bool ((rd_T181 l0 x4_1).f0),.string ((rd_T181 l0 x4_1).f1),.slice A267_2 ((rd_T181 l0 x4_1).f2).length c267_2]] rfl mw_ ?_;(with_reducible refine (laws_toPattern.calls k1 ((rd_T181 l0 x4_1).f0) ((rd_T181 l0 x4_1).f1) _ _ ((rd_T181 l0 x4_1).f2) t268 t269 t270 _ ?side1 HC267_2.out A8.out).mono ?_);(case side1=>exact mt_ HR267_2 HB);rintro e w11 ⟨v271,rfl,ho0,hb⟩;refine ⟨_,rfl,?_⟩;have HO272:=a_ (Kd.R_lower ho0 (below_size (mb_ HB)));replace HO_3:=a_ (Kd.S_elder' (by (with_reducible repeat (first|apply Kd.S_alloc|apply Kd.S_drewN|apply Kd.S_drew));exact HO_3.out) (Kd.R_base ho0) hb);replace HB:=ms_ HB hb;(try clear hb ho0);have p10:0≤(x4_1:Int):=md_;have q10:(x4_1:Int)<((x3_1.length:Int):Int):=md_;obtain ⟨go10,co10,eo10,gb10,gl10,cl10,HG10⟩:=Kd.S_form HO_3.out (by omega);(first|cases eo10|(injection eo10 with ea_ en_ ec_;(first|subst ea_|(injection ea_ with ea_;subst ea_));subst ec_;clear en_));have GB10:=a_ gb10;have GG10:=a_ HG10;clear gb10 gl10 HG10;obtain ⟨_,ce10,hcl10,hM10,hcc10,hfr10,_,_⟩:=Kd.S_elem HO_3.out z42 (x4_1:Int) p10 q10;obtain ⟨ve10_2,rfl,ge10_2⟩:=k42_openM hM10;have hx10_0:w11.cell? ⟨go10,(x4_1:Int).toNat*3,none⟩=some (.bool ((rd_T42 x3_1 x4_1).f0)):=hcc10 0 _ rfl;have hx10_1:w11.cell? ⟨go10,(x4_1:Int).toNat*3+1,none⟩=some (.string ((rd_T42 x3_1 x4_1).f1)):=hcc10 1 _ rfl;have hx10_2:w11.cell? ⟨go10,(x4_1:Int).toNat*3+2,none⟩=some (ve10_2):=hcc10 2 _ rfl;have hf10_0:w11.frozen? ⟨go10,(x4_1:Int).toNat*3,none⟩=false:=hfr10 0;have hf10_1:w11.frozen? ⟨go10,(x4_1:Int).toNat*3+1,none⟩=false:=hfr10 1;have hf10_2:w11.frozen? ⟨go10,(x4_1:Int).toNat*3+2,none⟩=false:=hfr10 2;clear hcl10 hcc10 hfr10;(try clear hM10);replace p10:=eq_true p10;replace q10:=eq_true q10;have n_:=a_ (Kd.S_mono (ok':=(fun k_=>some k_≠(v271:Value).ownBlock)) HO_3.out (fun k_ hk=>hk.2));clear HO_3;have HO_3:=n_;clear n_;have HX12:=a_ (show Kd.S k42 42 w11 w.heap.size (fun k_=>((fun _=>True)) k_∧¬((fun k_=>some k_=(v271:Value).ownBlock)) k_) (.slice (some ⟨go10,0,none⟩) x3_1.length co10) x3_1 from (by (with_reducible repeat (first|apply Kd.S_alloc|apply Kd.S_drewN|apply Kd.S_drew));exact Kd.S_mono HO_3.out (fun k_ hk=>⟨trivial,fun e_=>hk e_⟩)));obtain ⟨oki12,ce12,hcl12,hM12,hcc12,hfr12,hoki12,hH12⟩:=Kd.S_elem HX12.out z42 (x4_1:Int) (md_) (by have h_:(x4_1:Int)<((x3_1.length:Int):Int):=md_;first|exact h_|(have e_:=(Kd.S_reads' HO_3.out).1;omega)|simpa using h_);obtain ⟨ve12_2,rfl,ge12_2⟩:=k42_openM hM12;have HP12:=Kd.S_seg hH12 (md_) (by have h_:(x4_1:Int)<((x3_1.length:Int):Int):=md_;first|exact h_|(have e_:=(Kd.S_reads' HO_3.out).1;omega)|simpa using h_) (seg:=[.bool t268,.string t269,v271]) (j:=0) (show 3≤3 from by decide) (x':=(⟨t268,t269,t270⟩:S42)) (k42_mkM _ _ _ (⟨t268,t269,t270⟩:S42) (Kd.R_mono (Kd.R_tight rfl (Kd.R_mono (ok':=fun k_=>((fun _=>True)) k_∧k_≠go10) (Kd.R_apart' (HO272.out) (Kd.S_typed HO_3.out) (by decide)) (fun k_ hk=>⟨trivial,fun e_=>(hk.2) (by rw [e_];rfl)⟩))) (fun _ h_=>Or.inr (h_)))) (fun _ hk=>hk) (fun k_ hk_=>((Kd.R_mono (ok':=fun k_=>((fun _=>True)) k_∧k_≠go10) (Kd.R_apart' (HO272.out) (Kd.S_typed HO_3.out) (by decide)) (fun k_ hk=>⟨trivial,fun e_=>(hk.2) (by rw [e_];rfl)⟩))).1 k_ hk_.symm);have hx12_0:=hcc12 0 _ rfl;(try simp only [show (k42).sz=3 from rfl,Nat.mul_one,Nat.add_zero] at hx12_0);have hf12_0:=hfr12 0;(try simp only [show (k42).sz=3 from rfl,Nat.mul_one,Nat.add_zero] at hf12_0);have hx12_1:=hcc12 1 _ rfl;(try simp only [show (k42).sz=3 from rfl,Nat.mul_one,Nat.add_zero] at hx12_1);have hf12_1:=hfr12 1;(try simp only [show (k42).sz=3 from rfl,Nat.mul_one,Nat.add_zero] at hf12_1);have hx12_2:=hcc12 2 _ rfl;(try simp only [show (k42).sz=3 from rfl,Nat.mul_one,Nat.add_zero] at hx12_2);have hf12_2:=hfr12 2;(try simp only [show (k42).sz=3 from rfl,Nat.mul_one,Nat.add_zero] at hf12_2);clear hcl12 hcc12 hfr12 hoki12 hH12;(try clear hM12))|((with_reducible refine gate_store (t:=42) (p:=21) rfl ?_);refine store_event (t:=42) (p:=21) (v:=?vo_w13) (w1:=(((w11.setCell ⟨go10,(x4_1:Int).toNat*3,none⟩ (.bool t268)).setCell ⟨go10,(x4_1:Int).toNat*3+1,none⟩ (.string t269)).setCell ⟨go10,(x4_1:Int).toNat*3+2,none⟩ (v271))) ?hg ?ho ?hn ?hr ?_;(case ho=>rfl);(case hg=>rfl);(case hn=>rfl);(case hr=>first|(go_simp;done)|(go_simp;rfl)|((obtain ⟨As0_,cs0_,es0_⟩:=(by first|exact Kd.R_slice (Kd.S_R (Aside0.out (by with_reducible assumption:Aside0 (Kd.S _ _ _ _ _ v271 _))))|exact Kd.R_slice (Aside0.out (by with_reducible assumption:Aside0 (Kd.R _ _ _ _ _ v271 _)))|exact Kd.R_slice (Aside0.out ‹Aside0 (Kd.R _ _ _ _ _ v271 _)›):∃A_ c_,v271=Value.slice A_ _ c_));subst es0_;go_simp;done)|((obtain ⟨As0_,cs0_,es0_⟩:=(by first|exact Kd.R_slice (Kd.S_R (Aside0.out (by with_reducible assumption:Aside0 (Kd.S _ _ _ _ _ v271 _))))|exact Kd.R_slice (Aside0.out (by with_reducible assumption:Aside0 (Kd.R _ _ _ _ _ v271 _)))|exact Kd.R_slice (Aside0.out ‹Aside0 (Kd.R _ _ _ _ _ v271 _)›):∃A_ c_,v271=Value.slice A_ _ c_));subst es0_;go_simp;rfl));intro wx hw;have hg:w11.grownBy wx (some go10):=(by rw [hw];exact HP12.2);have hp_:Kd.S k42 42 wx w.heap.size (fun _=>True) (.slice (some ⟨go10,0,none⟩) x3_1.length co10) y273:=(by rw [hw,Ny273.out];exact HP12.1);clear HP12;replace HO_3:=a_ (hp_);replace HB:=a_ ((by rw [hw];exact below_set (below_set (below_set (HB.out) GB10.out) GB10.out) GB10.out:Below w.heap.size w wx));clear HO272;clear hg hw hp_))
  go_roundg k1
  case measure=>
   have:=HK1.out
   omega
  case rel=>exact ⟨(y273),(wrap64 (x4_1+1)),mq_,H',⟨by have:=HK1.out;omega⟩,⟨by (with_reducible repeat (first|apply Kd.S_alloc|apply Kd.S_drewN|apply Kd.S_drew));exact HO_3.out⟩,⟨mb_ HB⟩⟩
 ·rw [if_neg c6] at H;have c6b0:=cf_ c6;clear c6;obtain rfl:=oi_ H;go_wp2;go_ret;exact ⟨_,me_,by (with_reducible repeat (first|apply Kd.S_alloc|apply Kd.S_drewN|apply Kd.S_drew));exact HO_3.out,mb_ HB⟩
def laws_toExpr.f (a0_0:Int) (a0_1:Int) (a0_2:ByteArray) (a0_3:Int) (a0_4:Int) (a0_5:ByteArray) (a0_6:Int) (a0_7:Int):Option (Int×Int×ByteArray×Int×Int×ByteArray×Int×Int):=(laws_toValue.f a0_3 a0_4 a0_5).bind fun bt277=>(some (a0_0,a0_1,a0_2,bt277.1,bt277.2.1,bt277.2.2,a0_6,a0_7))
set_option maxHeartbeats 8000000 in
set_option maxRecDepth 100000 in
theorem laws_toExpr.calls (a0_0:Int) (a0_1:Int) (a0_2:ByteArray) (a0_3:Int) (a0_4:Int) (a0_5:ByteArray) (a0_6:Int) (a0_7:Int) (r1:Int) (r2:Int) (r3:ByteArray) (r4:Int) (r5:Int) (r6:ByteArray) (r7:Int) (r8:Int) (w:World) (h:laws_toExpr.f a0_0 a0_1 a0_2 a0_3 a0_4 a0_5 a0_6 a0_7=some (r1,r2,r3,r4,r5,r6,r7,r8)):
  Calls Tryz.prog 132 #[.agg #[.int .i64 a0_0,.int .u8 a0_1,.string a0_2,.int .i64 a0_3,.int .i64 a0_4,.string a0_5,.int .i64 a0_6,.int .i64 a0_7]] w fun e w'=>e=.returned (.agg #[.int .i64 r1,.int .u8 r2,.string r3,.int .i64 r4,.int .i64 r5,.string r6,.int .i64 r7,.int .i64 r8])∧Below w.heap.size w w':=by
 have hu185:=Tryz.underlying185;have hu161:=Tryz.underlying161;have hu183:=Tryz.underlying183;have hu80:=Tryz.underlying80;have HB:=a_ (Below.refl w.heap.size w);have H:=h;unfold laws_toExpr.f at H
 clear h;obtain ⟨⟨t277,t278,t279⟩,A2,H⟩:=ob_ H;simp only [Option.some.injEq,Prod.mk.injEq] at H;obtain ⟨rfl,rfl,rfl,rfl,rfl,rfl,rfl,rfl⟩:=H;go_enter Tryz.func132,Tryz.ntmps132;go_wp2_with (first|((with_reducible refine gate_dst (N:=1) rfl ?_);refine bh_ 1 #[.int .i64 a0_0,.int .u8 a0_1,.string a0_2,.int .i64 a0_3,.int .i64 a0_4,.string a0_5,.int .i64 a0_6,.int .i64 a0_7] 185 HB ?_;intro gb274 hg wx BK274 GE274 hb;replace HB:=ms_ HB hb;clear hb hg)|((with_reducible refine gate_dst (N:=2) rfl ?_);refine bh_ 2 #[.int .i64 0,.int .u8 0,.string (⟨#[]⟩:ByteArray),.int .i64 0,.int .i64 0,.string (⟨#[]⟩:ByteArray),.int .i64 0,.int .i64 0] 161 HB ?_;intro gb275 hg wx BK275 GE275 hb;obtain ⟨NB274_275,NB275_274⟩:=mn_ BK274 hg;replace BK274:=mk_ BK274 hb;replace HB:=ms_ HB hb;clear hb hg)|((with_reducible refine gate_dst (N:=3) rfl ?_);refine bh_ 3 #[.int .i64 0,.int .u8 0,.string (⟨#[]⟩:ByteArray),.int .i64 0,.int .i64 0,.string (⟨#[]⟩:ByteArray),.int .i64 0,.int .i64 0] 161 HB ?_;intro gb276 hg wx BK276 GE276 hb;obtain ⟨NB274_276,NB276_274⟩:=mn_ BK274 hg;obtain ⟨NB275_276,NB276_275⟩:=mn_ BK275 hg;replace BK274:=mk_ BK274 hb;replace BK275:=mk_ BK275 hb;replace HB:=ms_ HB hb;clear hb hg;have nNB274_275:=NB274_275.out;have nNB275_274:=NB275_274.out;have nNB274_276:=NB274_276.out;have nNB276_274:=NB276_274.out;replace hz274:=cz8 BK274;have nNB276_275:=NB276_275.out;have nNB275_276:=NB275_276.out;replace hz276:=cz8 BK276)|((with_reducible refine gate_callee (f:=164) rfl ?_);refine goesL_ (some 15) rfl rfl Tryz.func164 (by kernel_rfl) rfl #[.agg #[.int .i64 a0_3,.int .i64 a0_4,.string a0_5]] rfl mw_ ?_;(with_reducible refine (laws_toValue.calls a0_3 a0_4 a0_5 t277 t278 t279 _ A2.out).mono ?_);rintro e wx ⟨rfl,hb⟩;refine ⟨_,rfl,?_⟩;replace BK274:=mk_ BK274 hb;replace BK275:=mk_ BK275 hb;replace BK276:=a_ (blk_below (g:=gb276) (o:=.cells #[.int .i64 a0_0,.int .u8 a0_1,.string a0_2,.int .i64 0,.int .i64 0,.string (⟨#[]⟩:ByteArray),.int .i64 0,.int .i64 0] 161 (0,0)) (mp_ BK276) hb);replace HB:=ms_ HB hb;(try clear hb);replace hz276:=cz8 BK276;replace hz274:=cz8 BK274;replace hz275:=cz8 BK275));refine bodyPost_ret (results_cell_row rfl _ _ gb275 161 #[.int .i64 a0_0,.int .u8 a0_1,.string a0_2,.int .i64 t277,.int .i64 t278,.string t279,.int .i64 a0_6,.int .i64 a0_7] (0,0) _ rfl (mp_ BK275) Tryz.underlying161 rfl (by kernel_rfl)) rfl ?_;exact ⟨me_,mb_ HB⟩
def laws_toExprS.l0:Nat→List (S185)→List (S161)→Int→Option ((List (S161)))
 | 0,_,_,_=>none
 | k+1,x0,x3,x4=>if x4<(x0.length:Int) then (if 0≤x4 then ((laws_toExpr.f ((rd_T185 x0 x4).f0) ((rd_T185 x0 x4).f1) ((rd_T185 x0 x4).f2) ((rd_T185 x0 x4).f3.f0) ((rd_T185 x0 x4).f3.f1) ((rd_T185 x0 x4).f3.f2) ((rd_T185 x0 x4).f4) ((rd_T185 x0 x4).f5)).bind fun bt284=>(if x4<(x3.length:Int) then (laws_toExprS.l0 k x0 (x3.set (x4:Int).toNat (⟨bt284.1,bt284.2.1,bt284.2.2.1,(⟨bt284.2.2.2.1,bt284.2.2.2.2.1,bt284.2.2.2.2.2.1⟩:S80),bt284.2.2.2.2.2.2.1,bt284.2.2.2.2.2.2.2⟩:S161)) (wrap64 (x4+1))) else (none))) else (none)) else (some x3)
def laws_toExprS.f (k:Nat) (l0:List (S185)):Option ((List (S161))):=if 0≤(l0.length:Int) then (if ((l0.length:Int):Int).toNat≤3518437208883 then (laws_toExprS.l0 k l0 (List.replicate ((l0.length:Int):Int).toNat z161) 0) else (none)) else (none)
theorem laws_toExprS.mono_l:∀k,(∀y0 y1 y2,LeO (laws_toExprS.l0 k y0 y1 y2) (laws_toExprS.l0 (k+1) y0 y1 y2))
 | 0=>fun _ _ _ r h=>by simp [laws_toExprS.l0] at h
 | k+1=>by
  have ih0:=laws_toExprS.mono_l k
  ·intro y0 y1 y2;unfold laws_toExprS.l0
   repeat' with_reducible first|apply ih0|apply LeO.refl|apply LeO.none|refine LeO.ite ?_ ?_|refine LeO.bind ?_ (fun _=>?_)
theorem laws_toExprS.mono:∀a0 k,LeO (laws_toExprS.f k a0) (laws_toExprS.f (k+1) a0):=by
 intro a0 k;have ih0:=laws_toExprS.mono_l k;unfold laws_toExprS.f
 repeat' with_reducible first|apply ih0|apply LeO.refl|apply LeO.none|refine LeO.ite ?_ ?_|refine LeO.bind ?_ (fun _=>?_)
set_option maxHeartbeats 8000000 in
set_option maxRecDepth 100000 in
theorem laws_toExprS.calls (k:Nat) (A0:Option Addr) (c0:Nat) (l0:List (S185)) (r:List (S161)) (w:World) (hr0:Kd.C k185 w A0 l0.length l0) (hc0:l0.length≤c0) (h:laws_toExprS.f k l0=some r):
  Calls Tryz.prog 84 #[.slice A0 l0.length c0] w fun e w'=>∃v0_:Value,e=.returned (v0_)∧Kd.R k161 161 w' w.heap.size (fun _=>True) v0_ r∧Below w.heap.size w w':=by
 have hu185:=Tryz.underlying185;have hu161:=Tryz.underlying161;have HR0:=a_ hr0;have HC0:=a_ hc0;clear hr0 hc0;have HB:=a_ (Below.refl w.heap.size w);have H:=h;unfold laws_toExprS.f at H
 clear h;by_cases c2:0≤(l0.length:Int)
 case neg=>
  rw [if_neg c2] at H;cases H
 rw [if_pos c2] at H;have c2b0:=eq_true c2;have c2b1:=ct_ c2;clear c2;by_cases c3:((l0.length:Int):Int).toNat≤3518437208883
 case neg=>
  rw [if_neg c3] at H;cases H
 rw [if_pos c3] at H;have c3b0:=eq_true c3;have c3b1:=ct_ c3;clear c3;obtain ⟨y280,hy280⟩:∃y_:List (S161),y_=(List.replicate ((l0.length:Int):Int).toNat z161):=⟨_,rfl⟩;rw [←hy280] at H;(try rw [Option.bind_some] at H);have Ny280:=a_ hy280;clear hy280;have H':=a_ H;clear H;go_enter Tryz.func84,Tryz.ntmps84;go_wp2_with (first|((with_reducible refine gate_dst (N:=7) rfl ?_);refine Kd.R_make k161 _ 161 rfl (N:=7) rfl 36 _ _ rfl (l0.length:Int) rfl rfl Tryz.underlying36 (.agg #[(.int .i64 0),(.int .u8 0),(.string ⟨#[]⟩),(.int .i64 0),(.int .i64 0),(.string ⟨#[]⟩),(.int .i64 0),(.int .i64 0)]) 80 info161 rfl (by decide) (by omega) z161 (ok:=fun _=>True) (okp:=fun _=>True) (k161_mkM _ _ _ z161 ) (fun _ hk=>hk) trivial (md_) (Nat.le_trans (Nat.mul_le_mul_right _ (md_:(l0.length:Int).toNat≤3518437208883)) (by omega)) (Below.refl _ _) (Nat.le_refl _) ?_;intro v281 wx ho5 hb hg_ hnew_;clear hg_ hnew_;(first|rw [←Ny280.out] at ho5|(simp only [Int.reduceToNat] at ho5;rw [←Ny280.out] at ho5));have HO282:=a_ (Kd.R_lower ho5 (below_size (mb_ HB)));replace HB:=ms_ HB hb;clear hb ho5));go_loopg [4] k (fun kq v4 w'=>∃(x3_1:List (S161)) (x4_1:Int),v4=.int .i64 x4_1∧Aside0 (laws_toExprS.l0 kq l0 x3_1 x4_1=some r)∧Aside0 (kq≤k)∧Aside0 (Kd.R k161 161 w' w.heap.size (fun _=>True) v281 x3_1)∧Aside0 (Below w.heap.size w w'))
 case atStart=>exact ⟨(y280),(0),mq_,H',⟨Nat.le_refl _⟩,⟨mo_ HO282.out⟩,⟨mb_ HB⟩⟩
 clear H';(try clear c2b0);(try clear c2b1);(try clear c3b0);(try clear c3b1);obtain ⟨x3_1,x4_1,rfl,HA,HK1,HO_3,HB⟩:=hrel;obtain _|k1:=gk
 ·exact absurd HA.out (by simp [laws_toExprS.l0])
 have H:=HA.out;clear HA;simp only [laws_toExprS.l0] at H;by_cases c6:x4_1<(l0.length:Int)
 ·rw [if_pos c6] at H;have c6b0:=ct_ c6;clear c6;by_cases c7:0≤x4_1
  case neg=>
   rw [if_neg c7] at H;cases H
  rw [if_pos c7] at H;have c7b0:=ct_ c7;clear c7;obtain ⟨⟨t284,t285,t286,t287,t288,t289,t290,t291⟩,A8,H⟩:=ob_ H;by_cases c9:x4_1<(x3_1.length:Int)
  case neg=>
   rw [if_neg c9] at H;cases H
  rw [if_pos c9] at H;have c9b0:=ct_ c9;clear c9;obtain ⟨y292,hy292⟩:∃y_:List (S161),y_=(x3_1.set (x4_1:Int).toNat (⟨t284,t285,t286,(⟨t287,t288,t289⟩:S80),t290,t291⟩:S161)):=⟨_,rfl⟩;rw [←hy292] at H;(try rw [Option.bind_some] at H);have Ny292:=a_ hy292;clear hy292;have H':=a_ H;clear H;have p283:0≤(x4_1:Int):=md_
  have q283:x4_1<(l0.length:Int):=md_
  obtain ⟨ad283,e283,hx283_0,hx283_1,hx283_2,hx283_3,hx283_4,hx283_5,hx283_6,hx283_7⟩:=at_T185 HR0.out x4_1 p283 q283;cases e283;replace hx283_0:=mx_ HB hx283_0;replace hx283_1:=mx_ HB hx283_1;replace hx283_2:=mx_ HB hx283_2;replace hx283_3:=mx_ HB hx283_3;replace hx283_4:=mx_ HB hx283_4;replace hx283_5:=mx_ HB hx283_5;replace hx283_6:=mx_ HB hx283_6;replace hx283_7:=mx_ HB hx283_7;replace p283:=eq_true p283;replace q283:=eq_true q283;go_wp2_with (first|((with_reducible refine gate_callee (f:=132) rfl ?_);refine goesL_ (some 20) rfl rfl Tryz.func132 (by kernel_rfl) rfl #[.agg #[.int .i64 ((rd_T185 l0 x4_1).f0),.int .u8 ((rd_T185 l0 x4_1).f1),.string ((rd_T185 l0 x4_1).f2),.int .i64 ((rd_T185 l0 x4_1).f3.f0),.int .i64 ((rd_T185 l0 x4_1).f3.f1),.string ((rd_T185 l0 x4_1).f3.f2),.int .i64 ((rd_T185 l0 x4_1).f4),.int .i64 ((rd_T185 l0 x4_1).f5)]] rfl mw_ ?_;(with_reducible refine (laws_toExpr.calls ((rd_T185 l0 x4_1).f0) ((rd_T185 l0 x4_1).f1) ((rd_T185 l0 x4_1).f2) ((rd_T185 l0 x4_1).f3.f0) ((rd_T185 l0 x4_1).f3.f1) ((rd_T185 l0 x4_1).f3.f2) ((rd_T185 l0 x4_1).f4) ((rd_T185 l0 x4_1).f5) t284 t285 t286 t287 t288 t289 t290 t291 _ A8.out).mono ?_);rintro e w11 ⟨rfl,hb⟩;refine ⟨_,rfl,?_⟩;replace HO_3:=ro_ HO_3 hb;replace HB:=ms_ HB hb;(try clear hb);have p10:0≤(x4_1:Int):=md_;have q10:(x4_1:Int)<((x3_1.length:Int):Int):=md_;obtain ⟨go10,co10,eo10,gb10,gl10,cl10,HG10⟩:=Kd.R_form HO_3.out (by omega);(first|cases eo10|(injection eo10 with ea_ en_ ec_;(first|subst ea_|(injection ea_ with ea_;subst ea_));subst ec_;clear en_));have GB10:=a_ gb10;have GG10:=a_ HG10;clear gb10 gl10 HG10;obtain ⟨ce10,hcl10,hM10,hcc10,hfr10⟩:=Kd.R_elem HO_3.out z161 (x4_1:Int) p10 q10;obtain rfl:=k161_openM hM10;have hx10_0:w11.cell? ⟨go10,(x4_1:Int).toNat*8,none⟩=some (.int .i64 ((rd_T161 x3_1 x4_1).f0)):=hcc10 0 _ rfl;have hx10_1:w11.cell? ⟨go10,(x4_1:Int).toNat*8+1,none⟩=some (.int .u8 ((rd_T161 x3_1 x4_1).f1)):=hcc10 1 _ rfl;have hx10_2:w11.cell? ⟨go10,(x4_1:Int).toNat*8+2,none⟩=some (.string ((rd_T161 x3_1 x4_1).f2)):=hcc10 2 _ rfl;have hx10_3:w11.cell? ⟨go10,(x4_1:Int).toNat*8+3,none⟩=some (.int .i64 ((rd_T161 x3_1 x4_1).f3.f0)):=hcc10 3 _ rfl;have hx10_4:w11.cell? ⟨go10,(x4_1:Int).toNat*8+4,none⟩=some (.int .i64 ((rd_T161 x3_1 x4_1).f3.f1)):=hcc10 4 _ rfl;have hx10_5:w11.cell? ⟨go10,(x4_1:Int).toNat*8+5,none⟩=some (.string ((rd_T161 x3_1 x4_1).f3.f2)):=hcc10 5 _ rfl;have hx10_6:w11.cell? ⟨go10,(x4_1:Int).toNat*8+6,none⟩=some (.int .i64 ((rd_T161 x3_1 x4_1).f4)):=hcc10 6 _ rfl;have hx10_7:w11.cell? ⟨go10,(x4_1:Int).toNat*8+7,none⟩=some (.int .i64 ((rd_T161 x3_1 x4_1).f5)):=hcc10 7 _ rfl;have hf10_0:w11.frozen? ⟨go10,(x4_1:Int).toNat*8,none⟩=false:=hfr10 0;have hf10_1:w11.frozen? ⟨go10,(x4_1:Int).toNat*8+1,none⟩=false:=hfr10 1;have hf10_2:w11.frozen? ⟨go10,(x4_1:Int).toNat*8+2,none⟩=false:=hfr10 2;have hf10_3:w11.frozen? ⟨go10,(x4_1:Int).toNat*8+3,none⟩=false:=hfr10 3;have hf10_4:w11.frozen? ⟨go10,(x4_1:Int).toNat*8+4,none⟩=false:=hfr10 4;have hf10_5:w11.frozen? ⟨go10,(x4_1:Int).toNat*8+5,none⟩=false:=hfr10 5;have hf10_6:w11.frozen? ⟨go10,(x4_1:Int).toNat*8+6,none⟩=false:=hfr10 6;have hf10_7:w11.frozen? ⟨go10,(x4_1:Int).toNat*8+7,none⟩=false:=hfr10 7;clear hcl10 hcc10 hfr10;(try clear hM10);replace p10:=eq_true p10;replace q10:=eq_true q10;have HX12:=a_ (show Kd.R k161 161 w11 w.heap.size (fun _=>True) (.slice (some ⟨go10,0,none⟩) x3_1.length co10) x3_1 from (mo_ HO_3.out));obtain ⟨ce12,hcl12,hM12,hcc12,hfr12⟩:=Kd.R_elem HX12.out z161 (x4_1:Int) (md_) (by have h_:(x4_1:Int)<((x3_1.length:Int):Int):=md_;first|exact h_|(have e_:=(Kd.R_reads' HO_3.out).1;omega)|simpa using h_);obtain rfl:=k161_openM hM12;have HP12:=Kd.R_seg HX12.out (x4_1:Int) (md_) (by have h_:(x4_1:Int)<((x3_1.length:Int):Int):=md_;first|exact h_|(have e_:=(Kd.R_reads' HO_3.out).1;omega)|simpa using h_) (seg:=[.int .i64 t284,.int .u8 t285,.string t286,.int .i64 t287,.int .i64 t288,.string t289,.int .i64 t290,.int .i64 t291]) (j:=0) hcl12 hcc12 (show 8≤8 from by decide) (x':=(⟨t284,t285,t286,(⟨t287,t288,t289⟩:S80),t290,t291⟩:S161)) (k161_mkM _ _ _ (⟨t284,t285,t286,(⟨t287,t288,t289⟩:S80),t290,t291⟩:S161) ) (fun _ hk=>hk);have hx12_0:=hcc12 0 _ rfl;(try simp only [show (k161).sz=8 from rfl,Nat.mul_one,Nat.add_zero] at hx12_0);have hf12_0:=hfr12 0;(try simp only [show (k161).sz=8 from rfl,Nat.mul_one,Nat.add_zero] at hf12_0);have hx12_1:=hcc12 1 _ rfl;(try simp only [show (k161).sz=8 from rfl,Nat.mul_one,Nat.add_zero] at hx12_1);have hf12_1:=hfr12 1;(try simp only [show (k161).sz=8 from rfl,Nat.mul_one,Nat.add_zero] at hf12_1);have hx12_2:=hcc12 2 _ rfl;(try simp only [show (k161).sz=8 from rfl,Nat.mul_one,Nat.add_zero] at hx12_2);have hf12_2:=hfr12 2;(try simp only [show (k161).sz=8 from rfl,Nat.mul_one,Nat.add_zero] at hf12_2);have hx12_3:=hcc12 3 _ rfl;(try simp only [show (k161).sz=8 from rfl,Nat.mul_one,Nat.add_zero] at hx12_3);have hf12_3:=hfr12 3;(try simp only [show (k161).sz=8 from rfl,Nat.mul_one,Nat.add_zero] at hf12_3);have hx12_4:=hcc12 4 _ rfl;(try simp only [show (k161).sz=8 from rfl,Nat.mul_one,Nat.add_zero] at hx12_4);have hf12_4:=hfr12 4;(try simp only [show (k161).sz=8 from rfl,Nat.mul_one,Nat.add_zero] at hf12_4);have hx12_5:=hcc12 5 _ rfl;(try simp only [show (k161).sz=8 from rfl,Nat.mul_one,Nat.add_zero] at hx12_5);have hf12_5:=hfr12 5;(try simp only [show (k161).sz=8 from rfl,Nat.mul_one,Nat.add_zero] at hf12_5);have hx12_6:=hcc12 6 _ rfl;(try simp only [show (k161).sz=8 from rfl,Nat.mul_one,Nat.add_zero] at hx12_6);have hf12_6:=hfr12 6;(try simp only [show (k161).sz=8 from rfl,Nat.mul_one,Nat.add_zero] at hf12_6);have hx12_7:=hcc12 7 _ rfl;(try simp only [show (k161).sz=8 from rfl,Nat.mul_one,Nat.add_zero] at hx12_7);have hf12_7:=hfr12 7;(try simp only [show (k161).sz=8 from rfl,Nat.mul_one,Nat.add_zero] at hf12_7);clear hcl12 hcc12 hfr12;(try clear hM12))|((with_reducible refine gate_store (t:=161) (p:=21) rfl ?_);refine store_event (t:=161) (p:=21) (v:=?vo_w13) (w1:=((((((((w11.setCell ⟨go10,(x4_1:Int).toNat*8,none⟩ (.int .i64 t284)).setCell ⟨go10,(x4_1:Int).toNat*8+1,none⟩ (.int .u8 t285)).setCell ⟨go10,(x4_1:Int).toNat*8+2,none⟩ (.string t286)).setCell ⟨go10,(x4_1:Int).toNat*8+3,none⟩ (.int .i64 t287)).setCell ⟨go10,(x4_1:Int).toNat*8+4,none⟩ (.int .i64 t288)).setCell ⟨go10,(x4_1:Int).toNat*8+5,none⟩ (.string t289)).setCell ⟨go10,(x4_1:Int).toNat*8+6,none⟩ (.int .i64 t290)).setCell ⟨go10,(x4_1:Int).toNat*8+7,none⟩ (.int .i64 t291))) ?hg ?ho ?hn ?hr ?_;(case ho=>rfl);(case hg=>rfl);(case hn=>rfl);(case hr=>first|(go_simp;done)|(go_simp;rfl));intro wx hw;have hg:w11.grownBy wx (some go10):=(by rw [hw];exact HP12.2);have hp_:Kd.R k161 161 wx w.heap.size (fun _=>True) (.slice (some ⟨go10,0,none⟩) x3_1.length co10) y292:=(by rw [hw,Ny292.out];exact HP12.1);clear HP12;replace HO_3:=a_ (hp_);replace HB:=a_ ((by rw [hw];exact below_set (below_set (below_set (below_set (below_set (below_set (below_set (below_set (HB.out) GB10.out) GB10.out) GB10.out) GB10.out) GB10.out) GB10.out) GB10.out) GB10.out:Below w.heap.size w wx));clear hg hw hp_))
  go_roundg k1
  case measure=>
   have:=HK1.out
   omega
  case rel=>exact ⟨(y292),(wrap64 (x4_1+1)),mq_,H',⟨by have:=HK1.out;omega⟩,⟨mo_ HO_3.out⟩,⟨mb_ HB⟩⟩
 ·rw [if_neg c6] at H;have c6b0:=cf_ c6;clear c6;obtain rfl:=oi_ H;go_wp2;go_ret;exact ⟨_,me_,mo_ HO_3.out,mb_ HB⟩
def laws_toIntS.l0:Nat→List Int→List Int→Int→Option (List Int)
 | 0,_,_,_=>none
 | k+1,x0,x3,x4=>if x4<(x0.length:Int) then (if 0≤x4 then (if x4<(x3.length:Int) then (laws_toIntS.l0 k x0 (x3.set (x4:Int).toNat (rd x0 x4)) (wrap64 (x4+1))) else (none)) else (none)) else (some x3)
def laws_toIntS.f (k:Nat) (l0:List Int):Option (List Int):=if 0≤(l0.length:Int) then (if ((l0.length:Int):Int).toNat≤35184372088832 then (laws_toIntS.l0 k l0 (List.replicate ((l0.length:Int):Int).toNat 0) 0) else (none)) else (none)
theorem laws_toIntS.mono_l:∀k,(∀y0 y1 y2,LeO (laws_toIntS.l0 k y0 y1 y2) (laws_toIntS.l0 (k+1) y0 y1 y2))
 | 0=>fun _ _ _ r h=>by simp [laws_toIntS.l0] at h
 | k+1=>by
  have ih0:=laws_toIntS.mono_l k
  ·intro y0 y1 y2;unfold laws_toIntS.l0
   repeat' with_reducible first|apply ih0|apply LeO.refl|apply LeO.none|refine LeO.ite ?_ ?_|refine LeO.bind ?_ (fun _=>?_)
theorem laws_toIntS.mono:∀a0 k,LeO (laws_toIntS.f k a0) (laws_toIntS.f (k+1) a0):=by
 intro a0 k;have ih0:=laws_toIntS.mono_l k;unfold laws_toIntS.f
 repeat' with_reducible first|apply ih0|apply LeO.refl|apply LeO.none|refine LeO.ite ?_ ?_|refine LeO.bind ?_ (fun _=>?_)
set_option maxHeartbeats 8000000 in
set_option maxRecDepth 100000 in
theorem laws_toIntS.calls (k:Nat) (A0:Option Addr) (c0:Nat) (l0:List Int) (r:List Int) (w:World) (hr0:Kd.C (Kd.int .i64) w A0 l0.length l0) (hc0:l0.length≤c0) (h:laws_toIntS.f k l0=some r):
  Calls Tryz.prog 165 #[.slice A0 l0.length c0] w fun e w'=>∃v0_:Value,e=.returned (v0_)∧Kd.R (Kd.int .i64) 3 w' w.heap.size (fun _=>True) v0_ r∧Below w.heap.size w w':=by
 have HR0:=a_ hr0;have HC0:=a_ hc0;clear hr0 hc0;have HB:=a_ (Below.refl w.heap.size w);have H:=h;unfold laws_toIntS.f at H
 clear h;by_cases c2:0≤(l0.length:Int)
 case neg=>
  rw [if_neg c2] at H;cases H
 rw [if_pos c2] at H;have c2b0:=eq_true c2;have c2b1:=ct_ c2;clear c2;by_cases c3:((l0.length:Int):Int).toNat≤35184372088832
 case neg=>
  rw [if_neg c3] at H;cases H
 rw [if_pos c3] at H;have c3b0:=eq_true c3;have c3b1:=ct_ c3;clear c3;obtain ⟨y293,hy293⟩:∃y_:List Int,y_=(List.replicate ((l0.length:Int):Int).toNat 0):=⟨_,rfl⟩;rw [←hy293] at H;(try rw [Option.bind_some] at H);have Ny293:=a_ hy293;clear hy293;have H':=a_ H;clear H;go_enter Tryz.func165,Tryz.ntmps165;go_wp2_with (first|((with_reducible refine gate_dst (N:=7) rfl ?_);refine Kd.R_make (Kd.int .i64) _ 3 rfl (N:=7) rfl 43 _ _ rfl (l0.length:Int) rfl rfl Tryz.underlying43 (.int .i64 0) 8 info3 rfl (by decide) (by omega) 0 (ok:=fun _=>True) (okp:=fun _=>True) rfl (fun _ hk=>hk) trivial (md_) (Nat.le_trans (Nat.mul_le_mul_right _ (md_:(l0.length:Int).toNat≤35184372088832)) (by omega)) (Below.refl _ _) (Nat.le_refl _) ?_;intro v294 wx ho5 hb hg_ hnew_;clear hg_ hnew_;(first|rw [←Ny293.out] at ho5|(simp only [Int.reduceToNat] at ho5;rw [←Ny293.out] at ho5));have HO295:=a_ (Kd.R_lower ho5 (below_size (mb_ HB)));replace HB:=ms_ HB hb;clear hb ho5));go_loopg [4] k (fun kq v4 w'=>∃(x3_1:List Int) (x4_1:Int),v4=.int .i64 x4_1∧Aside0 (laws_toIntS.l0 kq l0 x3_1 x4_1=some r)∧Aside0 (kq≤k)∧Aside0 (Kd.R (Kd.int .i64) 3 w' w.heap.size (fun _=>True) v294 x3_1)∧Aside0 (Below w.heap.size w w'))
 case atStart=>exact ⟨(y293),(0),mq_,H',⟨Nat.le_refl _⟩,⟨mo_ HO295.out⟩,⟨mb_ HB⟩⟩
 clear H';(try clear c2b0);(try clear c2b1);(try clear c3b0);(try clear c3b1);obtain ⟨x3_1,x4_1,rfl,HA,HK1,HO_3,HB⟩:=hrel;obtain _|k1:=gk
 ·exact absurd HA.out (by simp [laws_toIntS.l0])
 have H:=HA.out;clear HA;simp only [laws_toIntS.l0] at H;by_cases c6:x4_1<(l0.length:Int)
 ·rw [if_pos c6] at H;have c6b0:=ct_ c6;clear c6;by_cases c7:0≤x4_1
  case neg=>
   rw [if_neg c7] at H;cases H
  rw [if_pos c7] at H;have c7b0:=ct_ c7;clear c7;by_cases c8:x4_1<(x3_1.length:Int)
  case neg=>
   rw [if_neg c8] at H;cases H
  rw [if_pos c8] at H;have c8b0:=ct_ c8;clear c8;obtain ⟨y297,hy297⟩:∃y_:List Int,y_=(x3_1.set (x4_1:Int).toNat (rd l0 x4_1)):=⟨_,rfl⟩;rw [←hy297] at H;(try rw [Option.bind_some] at H);have Ny297:=a_ hy297;clear hy297;have H':=a_ H;clear H;have p296:0≤(x4_1:Int):=md_
  have q296:x4_1<(l0.length:Int):=md_
  obtain ⟨ad296,e296,hx296_0⟩:=Kd.at_int HR0.out x4_1 p296 q296;cases e296;replace hx296_0:=mx_ HB hx296_0;replace p296:=eq_true p296;replace q296:=eq_true q296;have p9:0≤(x4_1:Int):=md_
  have q9:(x4_1:Int)<((x3_1.length:Int):Int):=md_
  obtain ⟨go9,co9,eo9,gb9,gl9,cl9,HG9⟩:=Kd.R_form HO_3.out (by omega);(first|cases eo9|(injection eo9 with ea_ en_ ec_;(first|subst ea_|(injection ea_ with ea_;subst ea_));subst ec_;clear en_));have GB9:=a_ gb9;have GG9:=a_ HG9;clear gb9 gl9 HG9;obtain ⟨hx9_0,hf9_0⟩:=Kd.R_celln 0 HO_3.out (x4_1:Int) p9 q9;replace p9:=eq_true p9;replace q9:=eq_true q9;have HP10:=Kd.R_putg HO_3.out (x4_1:Int) (rd l0 x4_1);go_wp2_with (first|((with_reducible refine gate_store (t:=3) (p:=20) rfl ?_);refine store_event (t:=3) (p:=20) (v:=?vo_w11) (w1:=(wr.setCell ⟨go9,(x4_1:Int).toNat,none⟩ (.int .i64 (rd l0 x4_1)))) ?hg ?ho ?hn ?hr ?_;(case ho=>rfl);(case hg=>rfl);(case hn=>rfl);(case hr=>first|(go_simp;done)|(go_simp;rfl));intro wx hw;have hg:wr.grownBy wx (some go9):=(by rw [hw];exact HP10.2);have hp_:Kd.R (Kd.int .i64) 3 wx w.heap.size (fun _=>True) (.slice (some ⟨go9,0,none⟩) x3_1.length co9) y297:=(by rw [hw,Ny297.out];exact HP10.1);clear HP10;replace HO_3:=a_ (hp_);replace HB:=a_ ((by rw [hw];exact below_set (HB.out) GB9.out:Below w.heap.size w wx));clear hg hw hp_));go_roundg k1
  case measure=>
   have:=HK1.out
   omega
  case rel=>exact ⟨(y297),(wrap64 (x4_1+1)),mq_,H',⟨by have:=HK1.out;omega⟩,⟨mo_ HO_3.out⟩,⟨mb_ HB⟩⟩
 ·rw [if_neg c6] at H;have c6b0:=cf_ c6;clear c6;obtain rfl:=oi_ H;go_wp2;go_ret;exact ⟨_,me_,mo_ HO_3.out,mb_ HB⟩
def laws_toAction.f (k:Nat) (a0_0:Int) (a0_1:Int) (a0_2:ByteArray) (l0_3:List Int):Option (Int×Int×ByteArray×List Int):=(laws_toIntS.f k l0_3).bind fun t301=>(some (a0_0,a0_1,a0_2,t301))
theorem laws_toAction.mono:∀a0 a1 a2 a3 k,LeO (laws_toAction.f k a0 a1 a2 a3) (laws_toAction.f (k+1) a0 a1 a2 a3):=by
 intro a0 a1 a2 a3 k;unfold laws_toAction.f
 repeat' with_reducible first|apply laws_toIntS.mono|apply LeO.refl|apply LeO.none|refine LeO.ite ?_ ?_|refine LeO.bind ?_ (fun _=>?_)
set_option maxHeartbeats 8000000 in
set_option maxRecDepth 100000 in
theorem laws_toAction.calls (k:Nat) (a0_0:Int) (a0_1:Int) (a0_2:ByteArray) (A0_3:Option Addr) (c0_3:Nat) (l0_3:List Int) (r1:Int) (r2:Int) (r3:ByteArray) (r4:List Int) (w:World) (hr0_3:Kd.C (Kd.int .i64) w A0_3 l0_3.length l0_3) (hc0_3:l0_3.length≤c0_3) (h:laws_toAction.f k a0_0 a0_1 a0_2 l0_3=some (r1,r2,r3,r4)):
  Calls Tryz.prog 133 #[.agg #[.int .i64 a0_0,.int .i64 a0_1,.string a0_2,.slice A0_3 l0_3.length c0_3]] w fun e w'=>∃v3_:Value,e=.returned (.agg #[.int .i64 r1,.int .i64 r2,.string r3,v3_])∧Kd.R (Kd.int .i64) 3 w' w.heap.size (fun _=>True) v3_ r4∧Below w.heap.size w w':=by
 have hu187:=Tryz.underlying187;have hu98:=Tryz.underlying98;have HR0_3:=a_ hr0_3;have HC0_3:=a_ hc0_3;clear hr0_3 hc0_3;have HB:=a_ (Below.refl w.heap.size w);have H:((laws_toIntS.f k l0_3).bind fun t301=>(some (a0_0,a0_1,a0_2,t301)))=some (r1,r2,r3,r4):=h
 clear h;obtain ⟨t301,A2,H⟩:=ob_ H;simp only [Option.some.injEq,Prod.mk.injEq] at H;obtain ⟨rfl,rfl,rfl,rfl⟩:=H;go_enter Tryz.func133,Tryz.ntmps133;go_wp2_with (first|((with_reducible refine gate_dst (N:=1) rfl ?_);refine bh_ 1 #[.int .i64 a0_0,.int .i64 a0_1,.string a0_2,.slice A0_3 l0_3.length c0_3] 187 HB ?_;intro gb298 hg wx BK298 GE298 hb;replace HB:=ms_ HB hb;clear hb hg)|((with_reducible refine gate_dst (N:=2) rfl ?_);refine bh_ 2 #[.int .i64 0,.int .i64 0,.string (⟨#[]⟩:ByteArray),.slice none 0 0] 98 HB ?_;intro gb299 hg wx BK299 GE299 hb;obtain ⟨NB298_299,NB299_298⟩:=mn_ BK298 hg;replace BK298:=mk_ BK298 hb;replace HB:=ms_ HB hb;clear hb hg)|((with_reducible refine gate_dst (N:=3) rfl ?_);refine bh_ 3 #[.int .i64 0,.int .i64 0,.string (⟨#[]⟩:ByteArray),.slice none 0 0] 98 HB ?_;intro gb300 hg wx BK300 GE300 hb;obtain ⟨NB298_300,NB300_298⟩:=mn_ BK298 hg;obtain ⟨NB299_300,NB300_299⟩:=mn_ BK299 hg;replace BK298:=mk_ BK298 hb;replace BK299:=mk_ BK299 hb;replace HB:=ms_ HB hb;clear hb hg;have nNB298_299:=NB298_299.out;have nNB299_298:=NB299_298.out;have nNB298_300:=NB298_300.out;have nNB300_298:=NB300_298.out;replace hz298:=cz4 BK298;have nNB300_299:=NB300_299.out;have nNB299_300:=NB299_300.out;replace hz300:=cz4 BK300)|((with_reducible refine gate_callee (f:=165) rfl ?_);refine goesL_ (some 15) rfl rfl Tryz.func165 (by kernel_rfl) rfl #[.slice A0_3 l0_3.length c0_3] rfl mw_ ?_;(with_reducible refine (laws_toIntS.calls k _ _ l0_3 t301 _ ?side1 HC0_3.out A2.out).mono ?_);(case side1=>exact Kd.C_below HR0_3.out (mb_ HB));rintro e wx ⟨v302,rfl,ho0,hb⟩;refine ⟨_,rfl,?_⟩;have HO303:=a_ (Kd.R_lower ho0 (below_size (mb_ HB)));replace BK298:=mk_ BK298 hb;replace BK299:=mk_ BK299 hb;replace BK300:=a_ (blk_below (g:=gb300) (o:=.cells #[.int .i64 a0_0,.int .i64 a0_1,.string a0_2,.slice none 0 0] 98 (0,0)) (mp_ BK300) hb);replace HB:=ms_ HB hb;(try clear hb ho0);obtain ⟨Ao12,co12,eo12⟩:=Kd.R_slice HO303.out;subst eo12;replace hz300:=cz4 BK300;replace hz299:=cz4 BK299));refine bodyPost_ret (results_cell_row rfl _ _ gb299 98 #[.int .i64 a0_0,.int .i64 a0_1,.string a0_2,.slice Ao12 t301.length co12] (0,0) _ rfl (mp_ BK299) Tryz.underlying98 rfl (by kernel_rfl)) rfl ?_;exact ⟨_,me_,mo_ (Kd.R_mono (Kd.R_far (p:=⟨gb299,3,none⟩) (Kd.R_far (p:=⟨gb299,2,none⟩) (Kd.R_far (p:=⟨gb299,1,none⟩) (Kd.R_far (p:=⟨gb299,0,none⟩) (Kd.R_far (p:=⟨gb300,3,none⟩) (Kd.R_types (Kd.R_types HO303.out BK300.out (by decide)) BK299.out (by decide)) (fun _ hk=>hk.1.2) (.slice Ao12 t301.length co12)) (fun _ hk=>hk.2) (.int .i64 a0_0)) (fun _ hk=>hk.2) (.int .i64 a0_1)) (fun _ hk=>hk.2) (.string a0_2)) (fun _ hk=>hk.2) (.slice Ao12 t301.length co12)) (fun _ hk=>trivial)),mb_ HB⟩
end Go.Proofs.YtahambloheoebaaGreatDoor.P
namespace Go.Proofs.YtahambloheoebaaGreatDoor.P
open Go.Proofs.YtahambloheoebaaGreatDoorX
open Go.RowKit Go.Proofs.YtahambloheoebaaGreatDoorW.PrintWords Go.Proofs.YtahambloheoebaaGreatDoorW.PrintLast Go.Proofs.YtahambloheoebaaGreatDoorW.PrintMore
attribute [local go_sem] max2_int min2_int max_two min_two max_three min_three max_four min_four
set_option linter.unusedVariables false
set_option linter.unusedSimpArgs false
def laws_toActionS.l0:Nat→List (S187)→List (S98)→Int→Option ((List (S98)))
 | 0,_,_,_=>none
 | k+1,x0,x3,x4=>if x4<(x0.length:Int) then (if 0≤x4 then ((laws_toAction.f k ((rd_T187 x0 x4).f0) ((rd_T187 x0 x4).f1) ((rd_T187 x0 x4).f2) ((rd_T187 x0 x4).f3)).bind fun bt308=>(if x4<(x3.length:Int) then (laws_toActionS.l0 k x0 (x3.set (x4:Int).toNat (⟨bt308.1,bt308.2.1,bt308.2.2.1,bt308.2.2.2⟩:S98)) (wrap64 (x4+1))) else (none))) else (none)) else (some x3)
def laws_toActionS.f (k:Nat) (l0:List (S187)):Option ((List (S98))):=if 0≤(l0.length:Int) then (if ((l0.length:Int):Int).toNat≤5026338869833 then (laws_toActionS.l0 k l0 (List.replicate ((l0.length:Int):Int).toNat z98) 0) else (none)) else (none)
theorem laws_toActionS.mono_l:∀k,(∀y0 y1 y2,LeO (laws_toActionS.l0 k y0 y1 y2) (laws_toActionS.l0 (k+1) y0 y1 y2))
 | 0=>fun _ _ _ r h=>by simp [laws_toActionS.l0] at h
 | k+1=>by
  have ih0:=laws_toActionS.mono_l k
  ·intro y0 y1 y2;unfold laws_toActionS.l0
   repeat' with_reducible first|apply ih0|apply laws_toAction.mono|apply LeO.refl|apply LeO.none|refine LeO.ite ?_ ?_|refine LeO.bind ?_ (fun _=>?_)
theorem laws_toActionS.mono:∀a0 k,LeO (laws_toActionS.f k a0) (laws_toActionS.f (k+1) a0):=by
 intro a0 k;have ih0:=laws_toActionS.mono_l k;unfold laws_toActionS.f
 repeat' with_reducible first|apply ih0|apply laws_toAction.mono|apply LeO.refl|apply LeO.none|refine LeO.ite ?_ ?_|refine LeO.bind ?_ (fun _=>?_)
set_option maxHeartbeats 8000000 in
set_option maxRecDepth 100000 in
theorem laws_toActionS.calls (k:Nat) (A0:Option Addr) (c0:Nat) (l0:List (S187)) (r:List (S98)) (w:World) (hr0:Kd.C k187 w A0 l0.length l0) (hc0:l0.length≤c0) (h:laws_toActionS.f k l0=some r):
  Calls Tryz.prog 85 #[.slice A0 l0.length c0] w fun e w'=>∃v0_:Value,e=.returned (v0_)∧Kd.S k98 98 w' w.heap.size (fun _=>True) v0_ r∧Below w.heap.size w w':=by
 have hu187:=Tryz.underlying187;have hu98:=Tryz.underlying98;have HR0:=a_ hr0;have HC0:=a_ hc0;clear hr0 hc0;have HB:=a_ (Below.refl w.heap.size w);have H:=h;unfold laws_toActionS.f at H
 clear h;by_cases c2:0≤(l0.length:Int)
 case neg=>
  rw [if_neg c2] at H;cases H
 rw [if_pos c2] at H;have c2b0:=eq_true c2;have c2b1:=ct_ c2;clear c2;by_cases c3:((l0.length:Int):Int).toNat≤5026338869833
 case neg=>
  rw [if_neg c3] at H;cases H
 rw [if_pos c3] at H;have c3b0:=eq_true c3;have c3b1:=ct_ c3;clear c3;obtain ⟨y304,hy304⟩:∃y_:List (S98),y_=(List.replicate ((l0.length:Int):Int).toNat z98):=⟨_,rfl⟩;rw [←hy304] at H;(try rw [Option.bind_some] at H);have Ny304:=a_ hy304;clear hy304;have H':=a_ H;clear H;go_enter Tryz.func85,Tryz.ntmps85;go_wp2_with (first|((with_reducible refine gate_dst (N:=7) rfl ?_);refine Kd.S_make k98 _ 98 rfl (N:=7) rfl 37 _ _ rfl (l0.length:Int) rfl rfl Tryz.underlying37 (.agg #[(.int .i64 0),(.int .i64 0),(.string ⟨#[]⟩),(.slice none 0 0)]) 56 info98 rfl (by decide) (by omega) z98 (ok:=fun _=>True) (okp:=fun _=>True) (k98_mkM _ _ _ z98 (Kd.R_nil _ _ _ _ _)) (fun _ hk=>hk) trivial (md_) (Nat.le_trans (Nat.mul_le_mul_right _ (md_:(l0.length:Int).toNat≤5026338869833)) (by omega)) (Below.refl _ _) (Nat.le_refl _) ?_;intro v305 wx ho5 hb hg_ hnew_;clear hg_ hnew_;(first|rw [←Ny304.out] at ho5|(simp only [Int.reduceToNat] at ho5;rw [←Ny304.out] at ho5));have HO306:=a_ (Kd.S_lower ho5 (below_size (mb_ HB)));replace HB:=ms_ HB hb;clear hb ho5));go_loopg [4] k (fun kq v4 w'=>∃(x3_1:List (S98)) (x4_1:Int),v4=.int .i64 x4_1∧Aside0 (laws_toActionS.l0 kq l0 x3_1 x4_1=some r)∧Aside0 (kq≤k)∧Aside0 (Kd.S k98 98 w' w.heap.size (fun _=>True) v305 x3_1)∧Aside0 (Below w.heap.size w w'))
 case atStart=>exact ⟨(y304),(0),mq_,H',⟨Nat.le_refl _⟩,⟨by (with_reducible repeat (first|apply Kd.S_alloc|apply Kd.S_drewN|apply Kd.S_drew));exact HO306.out⟩,⟨mb_ HB⟩⟩
 clear H';(try clear c2b0);(try clear c2b1);(try clear c3b0);(try clear c3b1);obtain ⟨x3_1,x4_1,rfl,HA,HK1,HO_3,HB⟩:=hrel;obtain _|k1:=gk
 ·exact absurd HA.out (by simp [laws_toActionS.l0])
 have H:=HA.out;clear HA;simp only [laws_toActionS.l0] at H;by_cases c6:x4_1<(l0.length:Int)
 ·rw [if_pos c6] at H;have c6b0:=ct_ c6;clear c6;by_cases c7:0≤x4_1
  case neg=>
   rw [if_neg c7] at H;cases H
  rw [if_pos c7] at H;have c7b0:=ct_ c7;clear c7;obtain ⟨⟨t308,t309,t310,t311⟩,A8,H⟩:=ob_ H;by_cases c9:x4_1<(x3_1.length:Int)
  case neg=>
   rw [if_neg c9] at H;cases H
  rw [if_pos c9] at H;have c9b0:=ct_ c9;clear c9;obtain ⟨y314,hy314⟩:∃y_:List (S98),y_=(x3_1.set (x4_1:Int).toNat (⟨t308,t309,t310,t311⟩:S98)):=⟨_,rfl⟩;rw [←hy314] at H;(try rw [Option.bind_some] at H);have Ny314:=a_ hy314;clear hy314;have H':=a_ H;clear H;have p307:0≤(x4_1:Int):=md_
  have q307:x4_1<(l0.length:Int):=md_
  obtain ⟨ad307,A307_3,c307_3,e307,hx307_0,hx307_1,hx307_2,hx307_3,hl307_3,hi307_3⟩:=at_T187 HR0.out x4_1 p307 q307;cases e307;replace hx307_0:=mx_ HB hx307_0;replace hx307_1:=mx_ HB hx307_1;replace hx307_2:=mx_ HB hx307_2;replace hx307_3:=mx_ HB hx307_3;have HR307_3:=a_ hi307_3;have HC307_3:=a_ hl307_3;clear hi307_3 hl307_3;replace p307:=eq_true p307;replace q307:=eq_true q307;go_wp2_with (first|((with_reducible refine gate_callee (f:=133) rfl ?_);refine goesL_ (some 20) rfl rfl Tryz.func133 (by kernel_rfl) rfl #[.agg #[.int .i64 ((rd_T187 l0 x4_1).f0),.int .i64 ((rd_T187 l0 x4_1).f1),.string ((rd_T187 l0 x4_1).f2),.slice A307_3 ((rd_T187 l0 x4_1).f3).length c307_3]] rfl mw_ ?_;(with_reducible refine (laws_toAction.calls k1 ((rd_T187 l0 x4_1).f0) ((rd_T187 l0 x4_1).f1) ((rd_T187 l0 x4_1).f2) _ _ ((rd_T187 l0 x4_1).f3) t308 t309 t310 t311 _ ?side1 HC307_3.out A8.out).mono ?_);(case side1=>exact mt_ HR307_3 HB);rintro e w11 ⟨v312,rfl,ho0,hb⟩;refine ⟨_,rfl,?_⟩;have HO313:=a_ (Kd.R_lower ho0 (below_size (mb_ HB)));replace HO_3:=a_ (Kd.S_elder' (by (with_reducible repeat (first|apply Kd.S_alloc|apply Kd.S_drewN|apply Kd.S_drew));exact HO_3.out) (Kd.R_base ho0) hb);replace HB:=ms_ HB hb;(try clear hb ho0);have p10:0≤(x4_1:Int):=md_;have q10:(x4_1:Int)<((x3_1.length:Int):Int):=md_;obtain ⟨go10,co10,eo10,gb10,gl10,cl10,HG10⟩:=Kd.S_form HO_3.out (by omega);(first|cases eo10|(injection eo10 with ea_ en_ ec_;(first|subst ea_|(injection ea_ with ea_;subst ea_));subst ec_;clear en_));have GB10:=a_ gb10;have GG10:=a_ HG10;clear gb10 gl10 HG10;obtain ⟨_,ce10,hcl10,hM10,hcc10,hfr10,_,_⟩:=Kd.S_elem HO_3.out z98 (x4_1:Int) p10 q10;obtain ⟨ve10_3,rfl,ge10_3⟩:=k98_openM hM10;have hx10_0:w11.cell? ⟨go10,(x4_1:Int).toNat*4,none⟩=some (.int .i64 ((rd_T98 x3_1 x4_1).f0)):=hcc10 0 _ rfl;have hx10_1:w11.cell? ⟨go10,(x4_1:Int).toNat*4+1,none⟩=some (.int .i64 ((rd_T98 x3_1 x4_1).f1)):=hcc10 1 _ rfl;have hx10_2:w11.cell? ⟨go10,(x4_1:Int).toNat*4+2,none⟩=some (.string ((rd_T98 x3_1 x4_1).f2)):=hcc10 2 _ rfl;have hx10_3:w11.cell? ⟨go10,(x4_1:Int).toNat*4+3,none⟩=some (ve10_3):=hcc10 3 _ rfl;have hf10_0:w11.frozen? ⟨go10,(x4_1:Int).toNat*4,none⟩=false:=hfr10 0;have hf10_1:w11.frozen? ⟨go10,(x4_1:Int).toNat*4+1,none⟩=false:=hfr10 1;have hf10_2:w11.frozen? ⟨go10,(x4_1:Int).toNat*4+2,none⟩=false:=hfr10 2;have hf10_3:w11.frozen? ⟨go10,(x4_1:Int).toNat*4+3,none⟩=false:=hfr10 3;clear hcl10 hcc10 hfr10;(try clear hM10);replace p10:=eq_true p10;replace q10:=eq_true q10;have n_:=a_ (Kd.S_mono (ok':=(fun k_=>some k_≠(v312:Value).ownBlock)) HO_3.out (fun k_ hk=>hk.2));clear HO_3;have HO_3:=n_;clear n_;have HX12:=a_ (show Kd.S k98 98 w11 w.heap.size (fun k_=>((fun _=>True)) k_∧¬((fun k_=>some k_=(v312:Value).ownBlock)) k_) (.slice (some ⟨go10,0,none⟩) x3_1.length co10) x3_1 from (by (with_reducible repeat (first|apply Kd.S_alloc|apply Kd.S_drewN|apply Kd.S_drew));exact Kd.S_mono HO_3.out (fun k_ hk=>⟨trivial,fun e_=>hk e_⟩)));obtain ⟨oki12,ce12,hcl12,hM12,hcc12,hfr12,hoki12,hH12⟩:=Kd.S_elem HX12.out z98 (x4_1:Int) (md_) (by have h_:(x4_1:Int)<((x3_1.length:Int):Int):=md_;first|exact h_|(have e_:=(Kd.S_reads' HO_3.out).1;omega)|simpa using h_);obtain ⟨ve12_3,rfl,ge12_3⟩:=k98_openM hM12;have HP12:=Kd.S_seg hH12 (md_) (by have h_:(x4_1:Int)<((x3_1.length:Int):Int):=md_;first|exact h_|(have e_:=(Kd.S_reads' HO_3.out).1;omega)|simpa using h_) (seg:=[.int .i64 t308,.int .i64 t309,.string t310,v312]) (j:=0) (show 4≤4 from by decide) (x':=(⟨t308,t309,t310,t311⟩:S98)) (k98_mkM _ _ _ (⟨t308,t309,t310,t311⟩:S98) (Kd.R_mono (Kd.R_tight rfl (Kd.R_mono (ok':=fun k_=>((fun _=>True)) k_∧k_≠go10) (Kd.R_apart' (HO313.out) (Kd.S_typed HO_3.out) (by decide)) (fun k_ hk=>⟨trivial,fun e_=>(hk.2) (by rw [e_];rfl)⟩))) (fun _ h_=>Or.inr (h_)))) (fun _ hk=>hk) (fun k_ hk_=>((Kd.R_mono (ok':=fun k_=>((fun _=>True)) k_∧k_≠go10) (Kd.R_apart' (HO313.out) (Kd.S_typed HO_3.out) (by decide)) (fun k_ hk=>⟨trivial,fun e_=>(hk.2) (by rw [e_];rfl)⟩))).1 k_ hk_.symm);have hx12_0:=hcc12 0 _ rfl;(try simp only [show (k98).sz=4 from rfl,Nat.mul_one,Nat.add_zero] at hx12_0);have hf12_0:=hfr12 0;(try simp only [show (k98).sz=4 from rfl,Nat.mul_one,Nat.add_zero] at hf12_0);have hx12_1:=hcc12 1 _ rfl;(try simp only [show (k98).sz=4 from rfl,Nat.mul_one,Nat.add_zero] at hx12_1);have hf12_1:=hfr12 1;(try simp only [show (k98).sz=4 from rfl,Nat.mul_one,Nat.add_zero] at hf12_1);have hx12_2:=hcc12 2 _ rfl;(try simp only [show (k98).sz=4 from rfl,Nat.mul_one,Nat.add_zero] at hx12_2);have hf12_2:=hfr12 2;(try simp only [show (k98).sz=4 from rfl,Nat.mul_one,Nat.add_zero] at hf12_2);have hx12_3:=hcc12 3 _ rfl;(try simp only [show (k98).sz=4 from rfl,Nat.mul_one,Nat.add_zero] at hx12_3);have hf12_3:=hfr12 3;(try simp only [show (k98).sz=4 from rfl,Nat.mul_one,Nat.add_zero] at hf12_3);clear hcl12 hcc12 hfr12 hoki12 hH12;(try clear hM12))|((with_reducible refine gate_store (t:=98) (p:=21) rfl ?_);refine store_event (t:=98) (p:=21) (v:=?vo_w13) (w1:=((((w11.setCell ⟨go10,(x4_1:Int).toNat*4,none⟩ (.int .i64 t308)).setCell ⟨go10,(x4_1:Int).toNat*4+1,none⟩ (.int .i64 t309)).setCell ⟨go10,(x4_1:Int).toNat*4+2,none⟩ (.string t310)).setCell ⟨go10,(x4_1:Int).toNat*4+3,none⟩ (v312))) ?hg ?ho ?hn ?hr ?_;(case ho=>rfl);(case hg=>rfl);(case hn=>rfl);(case hr=>first|(go_simp;done)|(go_simp;rfl)|((obtain ⟨As0_,cs0_,es0_⟩:=(by first|exact Kd.R_slice (Kd.S_R (Aside0.out (by with_reducible assumption:Aside0 (Kd.S _ _ _ _ _ v312 _))))|exact Kd.R_slice (Aside0.out (by with_reducible assumption:Aside0 (Kd.R _ _ _ _ _ v312 _)))|exact Kd.R_slice (Aside0.out ‹Aside0 (Kd.R _ _ _ _ _ v312 _)›):∃A_ c_,v312=Value.slice A_ _ c_));subst es0_;go_simp;done)|((obtain ⟨As0_,cs0_,es0_⟩:=(by first|exact Kd.R_slice (Kd.S_R (Aside0.out (by with_reducible assumption:Aside0 (Kd.S _ _ _ _ _ v312 _))))|exact Kd.R_slice (Aside0.out (by with_reducible assumption:Aside0 (Kd.R _ _ _ _ _ v312 _)))|exact Kd.R_slice (Aside0.out ‹Aside0 (Kd.R _ _ _ _ _ v312 _)›):∃A_ c_,v312=Value.slice A_ _ c_));subst es0_;go_simp;rfl));intro wx hw;have hg:w11.grownBy wx (some go10):=(by rw [hw];exact HP12.2);have hp_:Kd.S k98 98 wx w.heap.size (fun _=>True) (.slice (some ⟨go10,0,none⟩) x3_1.length co10) y314:=(by rw [hw,Ny314.out];exact HP12.1);clear HP12;replace HO_3:=a_ (hp_);replace HB:=a_ ((by rw [hw];exact below_set (below_set (below_set (below_set (HB.out) GB10.out) GB10.out) GB10.out) GB10.out:Below w.heap.size w wx));clear HO313;clear hg hw hp_))
  go_roundg k1
  case measure=>
   have:=HK1.out
   omega
  case rel=>exact ⟨(y314),(wrap64 (x4_1+1)),mq_,H',⟨by have:=HK1.out;omega⟩,⟨by (with_reducible repeat (first|apply Kd.S_alloc|apply Kd.S_drewN|apply Kd.S_drew));exact HO_3.out⟩,⟨mb_ HB⟩⟩
 ·rw [if_neg c6] at H;have c6b0:=cf_ c6;clear c6;obtain rfl:=oi_ H;go_wp2;go_ret;exact ⟨_,me_,by (with_reducible repeat (first|apply Kd.S_alloc|apply Kd.S_drewN|apply Kd.S_drew));exact HO_3.out,mb_ HB⟩
def laws_toRule.f (k:Nat) (a0_0:ByteArray) (a0_1:Int) (l0_2:List (S181)) (l0_3:List (S185)) (l0_4:List (S187)):Option (ByteArray×Int×(List (S42))×(List (S161))×(List (S98))):=(laws_toPatternS.f k l0_2).bind fun t318=>((laws_toExprS.f k l0_3).bind fun t321=>((laws_toActionS.f k l0_4).bind fun t324=>(some (a0_0,a0_1,t318,t321,t324))))
theorem laws_toRule.mono:∀a0 a1 a2 a3 a4 k,LeO (laws_toRule.f k a0 a1 a2 a3 a4) (laws_toRule.f (k+1) a0 a1 a2 a3 a4):=by
 intro a0 a1 a2 a3 a4 k;unfold laws_toRule.f
 repeat' with_reducible first|apply laws_toActionS.mono|apply laws_toExprS.mono|apply laws_toPatternS.mono|apply LeO.refl|apply LeO.none|refine LeO.ite ?_ ?_|refine LeO.bind ?_ (fun _=>?_)
set_option maxHeartbeats 8000000 in
set_option maxRecDepth 100000 in
theorem laws_toRule.calls (k:Nat) (a0_0:ByteArray) (a0_1:Int) (A0_2:Option Addr) (c0_2:Nat) (l0_2:List (S181)) (A0_3:Option Addr) (c0_3:Nat) (l0_3:List (S185)) (A0_4:Option Addr) (c0_4:Nat) (l0_4:List (S187)) (r1:ByteArray) (r2:Int) (r3:List (S42)) (r4:List (S161)) (r5:List (S98)) (w:World) (hr0_2:Kd.C k181 w A0_2 l0_2.length l0_2) (hc0_2:l0_2.length≤c0_2) (hr0_3:Kd.C k185 w A0_3 l0_3.length l0_3) (hc0_3:l0_3.length≤c0_3) (hr0_4:Kd.C k187 w A0_4 l0_4.length l0_4) (hc0_4:l0_4.length≤c0_4) (h:laws_toRule.f k a0_0 a0_1 l0_2 l0_3 l0_4=some (r1,r2,r3,r4,r5)):
  Calls Tryz.prog 41 #[.agg #[.string a0_0,.int .i64 a0_1,.slice A0_2 l0_2.length c0_2,.slice A0_3 l0_3.length c0_3,.slice A0_4 l0_4.length c0_4]] w fun e w'=>∃v2_ v3_ v4_:Value,e=.returned (.agg #[.string r1,.int .i64 r2,v2_,v3_,v4_])∧Kd.S k42 42 w' w.heap.size (fun _=>True) v2_ r3∧Kd.R k161 161 w' w.heap.size (fun _=>True) v3_ r4∧Kd.S k98 98 w' w.heap.size (fun _=>True) v4_ r5∧Below w.heap.size w w':=by
 have hu94:=Tryz.underlying94;have hu39:=Tryz.underlying39;have HR0_2:=a_ hr0_2;have HC0_2:=a_ hc0_2;clear hr0_2 hc0_2;have HR0_3:=a_ hr0_3;have HC0_3:=a_ hc0_3;clear hr0_3 hc0_3;have HR0_4:=a_ hr0_4;have HC0_4:=a_ hc0_4;clear hr0_4 hc0_4;have HB:=a_ (Below.refl w.heap.size w);have H:=h;unfold laws_toRule.f at H
 clear h;obtain ⟨t318,A2,H⟩:=ob_ H;obtain ⟨t321,A3,H⟩:=ob_ H;obtain ⟨t324,A4,H⟩:=ob_ H;simp only [Option.some.injEq,Prod.mk.injEq] at H;obtain ⟨rfl,rfl,rfl,rfl,rfl⟩:=H;go_enter Tryz.func41,Tryz.ntmps41;go_wp2_with (first|((with_reducible refine gate_dst (N:=1) rfl ?_);refine bh_ 1 #[.string a0_0,.int .i64 a0_1,.slice A0_2 l0_2.length c0_2,.slice A0_3 l0_3.length c0_3,.slice A0_4 l0_4.length c0_4] 94 HB ?_;intro gb315 hg wx BK315 GE315 hb;replace HB:=ms_ HB hb;clear hb hg)|((with_reducible refine gate_dst (N:=2) rfl ?_);refine bh_ 2 #[.string (⟨#[]⟩:ByteArray),.int .i64 0,.slice none 0 0,.slice none 0 0,.slice none 0 0] 39 HB ?_;intro gb316 hg wx BK316 GE316 hb;obtain ⟨NB315_316,NB316_315⟩:=mn_ BK315 hg;replace BK315:=mk_ BK315 hb;replace HB:=ms_ HB hb;clear hb hg)|((with_reducible refine gate_dst (N:=3) rfl ?_);refine bh_ 3 #[.string (⟨#[]⟩:ByteArray),.int .i64 0,.slice none 0 0,.slice none 0 0,.slice none 0 0] 39 HB ?_;intro gb317 hg wx BK317 GE317 hb;obtain ⟨NB315_317,NB317_315⟩:=mn_ BK315 hg;obtain ⟨NB316_317,NB317_316⟩:=mn_ BK316 hg;replace BK315:=mk_ BK315 hb;replace BK316:=mk_ BK316 hb;replace HB:=ms_ HB hb;clear hb hg;have nNB315_316:=NB315_316.out;have nNB316_315:=NB316_315.out;have nNB315_317:=NB315_317.out;have nNB317_315:=NB317_315.out;replace hz315:=cz5 BK315;have nNB317_316:=NB317_316.out;have nNB316_317:=NB316_317.out;replace hz317:=cz5 BK317)|((with_reducible refine gate_callee (f:=83) rfl ?_);refine goesL_ (some 12) rfl rfl Tryz.func83 (by kernel_rfl) rfl #[.slice A0_2 l0_2.length c0_2] rfl mw_ ?_;(with_reducible refine (laws_toPatternS.calls k _ _ l0_2 t318 _ ?side1 HC0_2.out A2.out).mono ?_);(case side1=>exact Kd.C_below HR0_2.out (mb_ HB));rintro e wx ⟨v319,rfl,ho0,hb⟩;refine ⟨_,rfl,?_⟩;have HO320:=a_ (Kd.S_lower ho0 (below_size (mb_ HB)));replace BK315:=mk_ BK315 hb;replace BK316:=mk_ BK316 hb;replace BK317:=a_ (blk_below (g:=gb317) (o:=.cells #[.string a0_0,.int .i64 a0_1,.slice none 0 0,.slice none 0 0,.slice none 0 0] 39 (0,0)) (mp_ BK317) hb);replace HB:=ms_ HB hb;(try clear hb ho0);obtain ⟨Ao14,co14,eo14⟩:=Kd.S_slice HO320.out;subst eo14;replace hz317:=cz5 BK317;replace hz315:=cz5 BK315)|((with_reducible refine gate_callee (f:=84) rfl ?_);refine goesL_ (some 16) rfl rfl Tryz.func84 (by kernel_rfl) rfl #[.slice A0_3 l0_3.length c0_3] rfl mw_ ?_;(with_reducible refine (laws_toExprS.calls k _ _ l0_3 t321 _ ?side1 HC0_3.out A3.out).mono ?_);(case side1=>exact Kd.C_below HR0_3.out (mb_ HB));rintro e wx ⟨v322,rfl,ho0,hb⟩;refine ⟨_,rfl,?_⟩;have HO323:=a_ (Kd.R_lower ho0 (below_size (mb_ HB)));replace HO320:=a_ (Kd.S_below (by (with_reducible repeat (first|apply Kd.S_alloc|apply Kd.S_drewN|apply Kd.S_drew));exact (Kd.S_mono (Kd.S_far (p:=⟨gb317,2,none⟩) (Kd.S_types HO320.out BK317.out (by decide)) (fun _ hk=>hk.2) (.slice Ao14 t318.length co14)) (fun _ h_=>h_.1))) hb);replace BK315:=mk_ BK315 hb;replace BK316:=mk_ BK316 hb;replace BK317:=a_ (blk_below (g:=gb317) (o:=.cells #[.string a0_0,.int .i64 a0_1,.slice Ao14 t318.length co14,.slice none 0 0,.slice none 0 0] 39 (0,0)) (mp_ BK317) hb);replace HB:=ms_ HB hb;(try clear hb ho0);obtain ⟨Ao18,co18,eo18⟩:=Kd.R_slice HO323.out;subst eo18;replace hz317:=cz5 BK317;replace hz315:=cz5 BK315)|((with_reducible refine gate_callee (f:=85) rfl ?_);refine goesL_ (some 20) rfl rfl Tryz.func85 (by kernel_rfl) rfl #[.slice A0_4 l0_4.length c0_4] rfl mw_ ?_;(with_reducible refine (laws_toActionS.calls k _ _ l0_4 t324 _ ?side1 HC0_4.out A4.out).mono ?_);(case side1=>exact Kd.C_below HR0_4.out (mb_ HB));rintro e wx ⟨v325,rfl,ho0,hb⟩;refine ⟨_,rfl,?_⟩;have HO326:=a_ (Kd.S_lower ho0 (below_size (mb_ HB)));replace HO320:=a_ (Kd.S_below (by (with_reducible repeat (first|apply Kd.S_alloc|apply Kd.S_drewN|apply Kd.S_drew));exact (Kd.S_mono (Kd.S_far (p:=⟨gb317,3,none⟩) (Kd.S_types HO320.out BK317.out (by decide)) (fun _ hk=>hk.2) (.slice Ao18 t321.length co18)) (fun _ h_=>h_.1))) hb);replace HO323:=a_ (Kd.R_below ((Kd.R_mono (mf_ HO323 BK317) (fun _ h_=>h_.1))) hb);replace BK315:=mk_ BK315 hb;replace BK316:=mk_ BK316 hb;replace BK317:=a_ (blk_below (g:=gb317) (o:=.cells #[.string a0_0,.int .i64 a0_1,.slice Ao14 t318.length co14,.slice Ao18 t321.length co18,.slice none 0 0] 39 (0,0)) (mp_ BK317) hb);replace HB:=ms_ HB hb;(try clear hb ho0);obtain ⟨Ao22,co22,eo22⟩:=Kd.S_slice HO326.out;subst eo22;replace hz317:=cz5 BK317;replace hz316:=cz5 BK316))
 refine bodyPost_ret (results_cell_row rfl _ _ gb316 39 #[.string a0_0,.int .i64 a0_1,.slice Ao14 t318.length co14,.slice Ao18 t321.length co18,.slice Ao22 t324.length co22] (0,0) _ rfl (mp_ BK316) Tryz.underlying39 rfl (by kernel_rfl)) rfl ?_;exact ⟨_,_,_,me_,by (with_reducible repeat (first|apply Kd.S_alloc|apply Kd.S_drewN|apply Kd.S_drew));exact Kd.S_mono (Kd.S_far (p:=⟨gb316,4,none⟩) (Kd.S_far (p:=⟨gb316,3,none⟩) (Kd.S_far (p:=⟨gb316,2,none⟩) (Kd.S_far (p:=⟨gb316,1,none⟩) (Kd.S_far (p:=⟨gb316,0,none⟩) (Kd.S_far (p:=⟨gb317,4,none⟩) (Kd.S_types (Kd.S_types HO320.out BK317.out (by decide)) BK316.out (by decide)) (fun _ hk=>hk.1.2) (.slice Ao22 t324.length co22)) (fun _ hk=>hk.2) (.string a0_0)) (fun _ hk=>hk.2) (.int .i64 a0_1)) (fun _ hk=>hk.2) (.slice Ao14 t318.length co14)) (fun _ hk=>hk.2) (.slice Ao18 t321.length co18)) (fun _ hk=>hk.2) (.slice Ao22 t324.length co22)) (fun _ hk=>trivial),mo_ (Kd.R_mono (Kd.R_far (p:=⟨gb316,4,none⟩) (Kd.R_far (p:=⟨gb316,3,none⟩) (Kd.R_far (p:=⟨gb316,2,none⟩) (Kd.R_far (p:=⟨gb316,1,none⟩) (Kd.R_far (p:=⟨gb316,0,none⟩) (Kd.R_far (p:=⟨gb317,4,none⟩) (Kd.R_types (Kd.R_types HO323.out BK317.out (by decide)) BK316.out (by decide)) (fun _ hk=>hk.1.2) (.slice Ao22 t324.length co22)) (fun _ hk=>hk.2) (.string a0_0)) (fun _ hk=>hk.2) (.int .i64 a0_1)) (fun _ hk=>hk.2) (.slice Ao14 t318.length co14)) (fun _ hk=>hk.2) (.slice Ao18 t321.length co18)) (fun _ hk=>hk.2) (.slice Ao22 t324.length co22)) (fun _ hk=>trivial)),by (with_reducible repeat (first|apply Kd.S_alloc|apply Kd.S_drewN|apply Kd.S_drew));exact Kd.S_mono (Kd.S_far (p:=⟨gb316,4,none⟩) (Kd.S_far (p:=⟨gb316,3,none⟩) (Kd.S_far (p:=⟨gb316,2,none⟩) (Kd.S_far (p:=⟨gb316,1,none⟩) (Kd.S_far (p:=⟨gb316,0,none⟩) (Kd.S_far (p:=⟨gb317,4,none⟩) (Kd.S_types (Kd.S_types HO326.out BK317.out (by decide)) BK316.out (by decide)) (fun _ hk=>hk.1.2) (.slice Ao22 t324.length co22)) (fun _ hk=>hk.2) (.string a0_0)) (fun _ hk=>hk.2) (.int .i64 a0_1)) (fun _ hk=>hk.2) (.slice Ao14 t318.length co14)) (fun _ hk=>hk.2) (.slice Ao18 t321.length co18)) (fun _ hk=>hk.2) (.slice Ao22 t324.length co22)) (fun _ hk=>trivial),mb_ HB⟩
def laws_toRuleS.l0:Nat→List (S94)→List (S39)→Int→Option ((List (S39)))
 | 0,_,_,_=>none
 | k+1,x0,x3,x4=>if x4<(x0.length:Int) then (if 0≤x4 then ((laws_toRule.f k ((rd_T94 x0 x4).f0) ((rd_T94 x0 x4).f1) ((rd_T94 x0 x4).f2) ((rd_T94 x0 x4).f3) ((rd_T94 x0 x4).f4)).bind fun bt331=>(if x4<(x3.length:Int) then (laws_toRuleS.l0 k x0 (x3.set (x4:Int).toNat (⟨bt331.1,bt331.2.1,bt331.2.2.1,bt331.2.2.2.1,bt331.2.2.2.2⟩:S39)) (wrap64 (x4+1))) else (none))) else (none)) else (some x3)
def laws_toRuleS.f (k:Nat) (l0:List (S94)):Option ((List (S39))):=if 0≤(l0.length:Int) then (if ((l0.length:Int):Int).toNat≤2932031007402 then (laws_toRuleS.l0 k l0 (List.replicate ((l0.length:Int):Int).toNat z39) 0) else (none)) else (none)
theorem laws_toRuleS.mono_l:∀k,(∀y0 y1 y2,LeO (laws_toRuleS.l0 k y0 y1 y2) (laws_toRuleS.l0 (k+1) y0 y1 y2))
 | 0=>fun _ _ _ r h=>by simp [laws_toRuleS.l0] at h
 | k+1=>by
  have ih0:=laws_toRuleS.mono_l k
  ·intro y0 y1 y2;unfold laws_toRuleS.l0
   repeat' with_reducible first|apply ih0|apply laws_toRule.mono|apply LeO.refl|apply LeO.none|refine LeO.ite ?_ ?_|refine LeO.bind ?_ (fun _=>?_)
theorem laws_toRuleS.mono:∀a0 k,LeO (laws_toRuleS.f k a0) (laws_toRuleS.f (k+1) a0):=by
 intro a0 k;have ih0:=laws_toRuleS.mono_l k;unfold laws_toRuleS.f
 repeat' with_reducible first|apply ih0|apply laws_toRule.mono|apply LeO.refl|apply LeO.none|refine LeO.ite ?_ ?_|refine LeO.bind ?_ (fun _=>?_)
set_option maxHeartbeats 8000000 in
set_option maxRecDepth 100000 in
theorem laws_toRuleS.calls (k:Nat) (A0:Option Addr) (c0:Nat) (l0:List (S94)) (r:List (S39)) (w:World) (hr0:Kd.C k94 w A0 l0.length l0) (hc0:l0.length≤c0) (h:laws_toRuleS.f k l0=some r):
  Calls Tryz.prog 14 #[.slice A0 l0.length c0] w fun e w'=>∃v0_:Value,e=.returned (v0_)∧Kd.R k39 39 w' w.heap.size (fun _=>True) v0_ r∧Below w.heap.size w w':=by
 have hu94:=Tryz.underlying94;have hu39:=Tryz.underlying39;have HR0:=a_ hr0;have HC0:=a_ hc0;clear hr0 hc0;have HB:=a_ (Below.refl w.heap.size w);have H:=h;unfold laws_toRuleS.f at H
 clear h;by_cases c2:0≤(l0.length:Int)
 case neg=>
  rw [if_neg c2] at H;cases H
 rw [if_pos c2] at H;have c2b0:=eq_true c2;have c2b1:=ct_ c2;clear c2;by_cases c3:((l0.length:Int):Int).toNat≤2932031007402
 case neg=>
  rw [if_neg c3] at H;cases H
 rw [if_pos c3] at H;have c3b0:=eq_true c3;have c3b1:=ct_ c3;clear c3;obtain ⟨y327,hy327⟩:∃y_:List (S39),y_=(List.replicate ((l0.length:Int):Int).toNat z39):=⟨_,rfl⟩;rw [←hy327] at H;(try rw [Option.bind_some] at H);have Ny327:=a_ hy327;clear hy327;have H':=a_ H;clear H;go_enter Tryz.func14,Tryz.ntmps14;go_wp2_with (first|((with_reducible refine gate_dst (N:=7) rfl ?_);refine Kd.R_make k39 _ 39 rfl (N:=7) rfl 23 _ _ rfl (l0.length:Int) rfl rfl Tryz.underlying23 (.agg #[(.string ⟨#[]⟩),(.int .i64 0),(.slice none 0 0),(.slice none 0 0),(.slice none 0 0)]) 96 info39 rfl (by decide) (by omega) z39 (ok:=fun _=>True) (okp:=fun _=>True) (k39_mkM _ _ _ z39 (Kd.R_nil _ _ _ _ _) (Kd.R_nil _ _ _ _ _) (Kd.R_nil _ _ _ _ _)) (fun _ hk=>hk) trivial (md_) (Nat.le_trans (Nat.mul_le_mul_right _ (md_:(l0.length:Int).toNat≤2932031007402)) (by omega)) (Below.refl _ _) (Nat.le_refl _) ?_;intro v328 wx ho5 hb hg_ hnew_;clear hg_ hnew_;(first|rw [←Ny327.out] at ho5|(simp only [Int.reduceToNat] at ho5;rw [←Ny327.out] at ho5));have HO329:=a_ (Kd.R_lower ho5 (below_size (mb_ HB)));replace HB:=ms_ HB hb;clear hb ho5));go_loopg [4] k (fun kq v4 w'=>∃(x3_1:List (S39)) (x4_1:Int),v4=.int .i64 x4_1∧Aside0 (laws_toRuleS.l0 kq l0 x3_1 x4_1=some r)∧Aside0 (kq≤k)∧Aside0 (Kd.R k39 39 w' w.heap.size (fun _=>True) v328 x3_1)∧Aside0 (Below w.heap.size w w'))
 case atStart=>exact ⟨(y327),(0),mq_,H',⟨Nat.le_refl _⟩,⟨mo_ HO329.out⟩,⟨mb_ HB⟩⟩
 clear H';(try clear c2b0);(try clear c2b1);(try clear c3b0);(try clear c3b1);obtain ⟨x3_1,x4_1,rfl,HA,HK1,HO_3,HB⟩:=hrel;obtain _|k1:=gk
 ·exact absurd HA.out (by simp [laws_toRuleS.l0])
 have H:=HA.out;clear HA;simp only [laws_toRuleS.l0] at H;by_cases c6:x4_1<(l0.length:Int)
 ·rw [if_pos c6] at H;have c6b0:=ct_ c6;clear c6;by_cases c7:0≤x4_1
  case neg=>
   rw [if_neg c7] at H;cases H
  rw [if_pos c7] at H;have c7b0:=ct_ c7;clear c7;obtain ⟨⟨t331,t332,t333,t336,t339⟩,A8,H⟩:=ob_ H;by_cases c9:x4_1<(x3_1.length:Int)
  case neg=>
   rw [if_neg c9] at H;cases H
  rw [if_pos c9] at H;have c9b0:=ct_ c9;clear c9;obtain ⟨y342,hy342⟩:∃y_:List (S39),y_=(x3_1.set (x4_1:Int).toNat (⟨t331,t332,t333,t336,t339⟩:S39)):=⟨_,rfl⟩;rw [←hy342] at H;(try rw [Option.bind_some] at H);have Ny342:=a_ hy342;clear hy342;have H':=a_ H;clear H;have p330:0≤(x4_1:Int):=md_
  have q330:x4_1<(l0.length:Int):=md_
  obtain ⟨ad330,A330_2,c330_2,A330_3,c330_3,A330_4,c330_4,e330,hx330_0,hx330_1,hx330_2,hx330_3,hx330_4,hl330_2,hi330_2,hl330_3,hi330_3,hl330_4,hi330_4⟩:=at_T94 HR0.out x4_1 p330 q330;cases e330;replace hx330_0:=mx_ HB hx330_0;replace hx330_1:=mx_ HB hx330_1;replace hx330_2:=mx_ HB hx330_2;replace hx330_3:=mx_ HB hx330_3;replace hx330_4:=mx_ HB hx330_4;have HR330_2:=a_ hi330_2;have HC330_2:=a_ hl330_2;clear hi330_2 hl330_2;have HR330_3:=a_ hi330_3;have HC330_3:=a_ hl330_3;clear hi330_3 hl330_3;have HR330_4:=a_ hi330_4;have HC330_4:=a_ hl330_4;clear hi330_4 hl330_4;replace p330:=eq_true p330;replace q330:=eq_true q330;go_wp2_with (first|((with_reducible refine gate_callee (f:=41) rfl ?_);refine goesL_ (some 20) rfl rfl Tryz.func41 (by kernel_rfl) rfl #[.agg #[.string ((rd_T94 l0 x4_1).f0),.int .i64 ((rd_T94 l0 x4_1).f1),.slice A330_2 ((rd_T94 l0 x4_1).f2).length c330_2,.slice A330_3 ((rd_T94 l0 x4_1).f3).length c330_3,.slice A330_4 ((rd_T94 l0 x4_1).f4).length c330_4]] rfl mw_ ?_;(with_reducible refine (laws_toRule.calls k1 ((rd_T94 l0 x4_1).f0) ((rd_T94 l0 x4_1).f1) _ _ ((rd_T94 l0 x4_1).f2) _ _ ((rd_T94 l0 x4_1).f3) _ _ ((rd_T94 l0 x4_1).f4) t331 t332 t333 t336 t339 _ ?side1 HC330_2.out ?side3 HC330_3.out ?side5 HC330_4.out A8.out).mono ?_);(case side1=>exact mt_ HR330_2 HB);(case side3=>exact mt_ HR330_3 HB);(case side5=>exact mt_ HR330_4 HB);rintro e w11 ⟨v334,v337,v340,rfl,ho0,ho1,ho2,hb⟩;refine ⟨_,rfl,?_⟩;have HO335:=a_ (Kd.S_lower ho0 (below_size (mb_ HB)));have HO338:=a_ (Kd.R_lower ho1 (below_size (mb_ HB)));have HO341:=a_ (Kd.S_lower ho2 (below_size (mb_ HB)));replace HO_3:=a_ (Kd.R_mono (Kd.R_told (Kd.R_told (Kd.R_told (Kd.R_old (mo_ HO_3.out) hb) (Kd.S_base ho0)) (Kd.R_base ho1)) (Kd.S_base ho2)) (fun _ h_=>h_.1));replace HB:=ms_ HB hb;(try clear hb ho0 ho1 ho2);have p10:0≤(x4_1:Int):=md_;have q10:(x4_1:Int)<((x3_1.length:Int):Int):=md_;obtain ⟨go10,co10,eo10,gb10,gl10,cl10,HG10⟩:=Kd.R_form HO_3.out (by omega);(first|cases eo10|(injection eo10 with ea_ en_ ec_;(first|subst ea_|(injection ea_ with ea_;subst ea_));subst ec_;clear en_));have GB10:=a_ gb10;have GG10:=a_ HG10;clear gb10 gl10 HG10;obtain ⟨ce10,hcl10,hM10,hcc10,hfr10⟩:=Kd.R_elem HO_3.out z39 (x4_1:Int) p10 q10;obtain ⟨ve10_2,ve10_3,ve10_4,rfl,ge10_2,ge10_3,ge10_4⟩:=k39_openM hM10;have hx10_0:w11.cell? ⟨go10,(x4_1:Int).toNat*5,none⟩=some (.string ((rd_T39 x3_1 x4_1).f0)):=hcc10 0 _ rfl;have hx10_1:w11.cell? ⟨go10,(x4_1:Int).toNat*5+1,none⟩=some (.int .i64 ((rd_T39 x3_1 x4_1).f1)):=hcc10 1 _ rfl;have hx10_2:w11.cell? ⟨go10,(x4_1:Int).toNat*5+2,none⟩=some (ve10_2):=hcc10 2 _ rfl;have hx10_3:w11.cell? ⟨go10,(x4_1:Int).toNat*5+3,none⟩=some (ve10_3):=hcc10 3 _ rfl;have hx10_4:w11.cell? ⟨go10,(x4_1:Int).toNat*5+4,none⟩=some (ve10_4):=hcc10 4 _ rfl;have hf10_0:w11.frozen? ⟨go10,(x4_1:Int).toNat*5,none⟩=false:=hfr10 0;have hf10_1:w11.frozen? ⟨go10,(x4_1:Int).toNat*5+1,none⟩=false:=hfr10 1;have hf10_2:w11.frozen? ⟨go10,(x4_1:Int).toNat*5+2,none⟩=false:=hfr10 2;have hf10_3:w11.frozen? ⟨go10,(x4_1:Int).toNat*5+3,none⟩=false:=hfr10 3;have hf10_4:w11.frozen? ⟨go10,(x4_1:Int).toNat*5+4,none⟩=false:=hfr10 4;clear hcl10 hcc10 hfr10;(try clear hM10);replace p10:=eq_true p10;replace q10:=eq_true q10;have n_:=a_ (Kd.R_mono (ok':=(fun k_=>some k_≠(v334:Value).ownBlock∧some k_≠(v337:Value).ownBlock∧some k_≠(v340:Value).ownBlock)) HO_3.out (fun k_ hk=>⟨hk.1.1.2,⟨hk.1.2,hk.2⟩⟩));clear HO_3;have HO_3:=n_;clear n_;have HX12:=a_ (show Kd.R k39 39 w11 w.heap.size (fun _=>True) (.slice (some ⟨go10,0,none⟩) x3_1.length co10) x3_1 from (mo_ (Kd.R_mono HO_3.out (fun _ hk=>trivial))));obtain ⟨ce12,hcl12,hM12,hcc12,hfr12⟩:=Kd.R_elem HX12.out z39 (x4_1:Int) (md_) (by have h_:(x4_1:Int)<((x3_1.length:Int):Int):=md_;first|exact h_|(have e_:=(Kd.R_reads' HO_3.out).1;omega)|simpa using h_);obtain ⟨ve12_2,ve12_3,ve12_4,rfl,ge12_2,ge12_3,ge12_4⟩:=k39_openM hM12;have HP12:=Kd.R_seg HX12.out (x4_1:Int) (md_) (by have h_:(x4_1:Int)<((x3_1.length:Int):Int):=md_;first|exact h_|(have e_:=(Kd.R_reads' HO_3.out).1;omega)|simpa using h_) (seg:=[.string t331,.int .i64 t332,v334,v337,v340]) (j:=0) hcl12 hcc12 (show 5≤5 from by decide) (x':=(⟨t331,t332,t333,t336,t339⟩:S39)) (k39_mkM _ _ _ (⟨t331,t332,t333,t336,t339⟩:S39) (Kd.R_mono (Kd.R_apart' ((Kd.S_R HO335.out)) (Kd.R_typed HO_3.out) (by decide)) (fun k_ hk=>⟨trivial,fun e_=>(hk.2) (by rw [e_];rfl)⟩)) (Kd.R_mono (Kd.R_apart' (HO338.out) (Kd.R_typed HO_3.out) (by decide)) (fun k_ hk=>⟨trivial,fun e_=>(hk.2) (by rw [e_];rfl)⟩)) (Kd.R_mono (Kd.R_apart' ((Kd.S_R HO341.out)) (Kd.R_typed HO_3.out) (by decide)) (fun k_ hk=>⟨trivial,fun e_=>(hk.2) (by rw [e_];rfl)⟩))) (fun _ hk=>hk);have hx12_0:=hcc12 0 _ rfl;(try simp only [show (k39).sz=5 from rfl,Nat.mul_one,Nat.add_zero] at hx12_0);have hf12_0:=hfr12 0;(try simp only [show (k39).sz=5 from rfl,Nat.mul_one,Nat.add_zero] at hf12_0);have hx12_1:=hcc12 1 _ rfl;(try simp only [show (k39).sz=5 from rfl,Nat.mul_one,Nat.add_zero] at hx12_1);have hf12_1:=hfr12 1;(try simp only [show (k39).sz=5 from rfl,Nat.mul_one,Nat.add_zero] at hf12_1);have hx12_2:=hcc12 2 _ rfl;(try simp only [show (k39).sz=5 from rfl,Nat.mul_one,Nat.add_zero] at hx12_2);have hf12_2:=hfr12 2;(try simp only [show (k39).sz=5 from rfl,Nat.mul_one,Nat.add_zero] at hf12_2);have hx12_3:=hcc12 3 _ rfl;(try simp only [show (k39).sz=5 from rfl,Nat.mul_one,Nat.add_zero] at hx12_3);have hf12_3:=hfr12 3;(try simp only [show (k39).sz=5 from rfl,Nat.mul_one,Nat.add_zero] at hf12_3);have hx12_4:=hcc12 4 _ rfl;(try simp only [show (k39).sz=5 from rfl,Nat.mul_one,Nat.add_zero] at hx12_4);have hf12_4:=hfr12 4;(try simp only [show (k39).sz=5 from rfl,Nat.mul_one,Nat.add_zero] at hf12_4);clear hcl12 hcc12 hfr12;(try clear hM12))|((with_reducible refine gate_store (t:=39) (p:=21) rfl ?_);refine store_event (t:=39) (p:=21) (v:=?vo_w13) (w1:=(((((w11.setCell ⟨go10,(x4_1:Int).toNat*5,none⟩ (.string t331)).setCell ⟨go10,(x4_1:Int).toNat*5+1,none⟩ (.int .i64 t332)).setCell ⟨go10,(x4_1:Int).toNat*5+2,none⟩ (v334)).setCell ⟨go10,(x4_1:Int).toNat*5+3,none⟩ (v337)).setCell ⟨go10,(x4_1:Int).toNat*5+4,none⟩ (v340))) ?hg ?ho ?hn ?hr ?_;(case ho=>rfl);(case hg=>rfl);(case hn=>rfl);(case hr=>first|(go_simp;done)|(go_simp;rfl)|((obtain ⟨As0_,cs0_,es0_⟩:=(by first|exact Kd.R_slice (Kd.S_R (Aside0.out (by with_reducible assumption:Aside0 (Kd.S _ _ _ _ _ v334 _))))|exact Kd.R_slice (Aside0.out (by with_reducible assumption:Aside0 (Kd.R _ _ _ _ _ v334 _)))|exact Kd.R_slice (Aside0.out ‹Aside0 (Kd.R _ _ _ _ _ v334 _)›):∃A_ c_,v334=Value.slice A_ _ c_));subst es0_;(obtain ⟨As1_,cs1_,es1_⟩:=(by first|exact Kd.R_slice (Kd.S_R (Aside0.out (by with_reducible assumption:Aside0 (Kd.S _ _ _ _ _ v337 _))))|exact Kd.R_slice (Aside0.out (by with_reducible assumption:Aside0 (Kd.R _ _ _ _ _ v337 _)))|exact Kd.R_slice (Aside0.out ‹Aside0 (Kd.R _ _ _ _ _ v337 _)›):∃A_ c_,v337=Value.slice A_ _ c_));subst es1_;(obtain ⟨As2_,cs2_,es2_⟩:=(by first|exact Kd.R_slice (Kd.S_R (Aside0.out (by with_reducible assumption:Aside0 (Kd.S _ _ _ _ _ v340 _))))|exact Kd.R_slice (Aside0.out (by with_reducible assumption:Aside0 (Kd.R _ _ _ _ _ v340 _)))|exact Kd.R_slice (Aside0.out ‹Aside0 (Kd.R _ _ _ _ _ v340 _)›):∃A_ c_,v340=Value.slice A_ _ c_));subst es2_;go_simp;done)|((obtain ⟨As0_,cs0_,es0_⟩:=(by first|exact Kd.R_slice (Kd.S_R (Aside0.out (by with_reducible assumption:Aside0 (Kd.S _ _ _ _ _ v334 _))))|exact Kd.R_slice (Aside0.out (by with_reducible assumption:Aside0 (Kd.R _ _ _ _ _ v334 _)))|exact Kd.R_slice (Aside0.out ‹Aside0 (Kd.R _ _ _ _ _ v334 _)›):∃A_ c_,v334=Value.slice A_ _ c_));subst es0_;(obtain ⟨As1_,cs1_,es1_⟩:=(by first|exact Kd.R_slice (Kd.S_R (Aside0.out (by with_reducible assumption:Aside0 (Kd.S _ _ _ _ _ v337 _))))|exact Kd.R_slice (Aside0.out (by with_reducible assumption:Aside0 (Kd.R _ _ _ _ _ v337 _)))|exact Kd.R_slice (Aside0.out ‹Aside0 (Kd.R _ _ _ _ _ v337 _)›):∃A_ c_,v337=Value.slice A_ _ c_));subst es1_;(obtain ⟨As2_,cs2_,es2_⟩:=(by first|exact Kd.R_slice (Kd.S_R (Aside0.out (by with_reducible assumption:Aside0 (Kd.S _ _ _ _ _ v340 _))))|exact Kd.R_slice (Aside0.out (by with_reducible assumption:Aside0 (Kd.R _ _ _ _ _ v340 _)))|exact Kd.R_slice (Aside0.out ‹Aside0 (Kd.R _ _ _ _ _ v340 _)›):∃A_ c_,v340=Value.slice A_ _ c_));subst es2_;go_simp;rfl));intro wx hw;have hg:w11.grownBy wx (some go10):=(by rw [hw];exact HP12.2);have hp_:Kd.R k39 39 wx w.heap.size (fun _=>True) (.slice (some ⟨go10,0,none⟩) x3_1.length co10) y342:=(by rw [hw,Ny342.out];exact HP12.1);clear HP12;replace HO_3:=a_ (hp_);replace HB:=a_ ((by rw [hw];exact below_set (below_set (below_set (below_set (below_set (HB.out) GB10.out) GB10.out) GB10.out) GB10.out) GB10.out:Below w.heap.size w wx));clear HO335 HO338 HO341;clear hg hw hp_))
  go_roundg k1
  case measure=>
   have:=HK1.out
   omega
  case rel=>exact ⟨(y342),(wrap64 (x4_1+1)),mq_,H',⟨by have:=HK1.out;omega⟩,⟨mo_ HO_3.out⟩,⟨mb_ HB⟩⟩
 ·rw [if_neg c6] at H;have c6b0:=cf_ c6;clear c6;obtain rfl:=oi_ H;go_wp2;go_ret;exact ⟨_,me_,mo_ HO_3.out,mb_ HB⟩
end Go.Proofs.YtahambloheoebaaGreatDoor.P
namespace Go.Proofs.YtahambloheoebaaGreatDoorX
open Go.RowKit Go.Proofs.YtahambloheoebaaGreatDoorW.PrintWords
set_option linter.unusedVariables false
set_option linter.unusedSimpArgs false
def symOk (c:Int):Bool:=(decide (97≤c)&&decide (c≤122)) || (decide (48≤c)&&decide (c≤57)) || c==45
def symFrom (s:ByteArray) (i:Nat):Bool:=((List.range s.size).drop i).all fun j=>symOk (bt s j)
def goodSymB (s:ByteArray):Bool:=if s.size=0 then false else if 20<s.size then false else if bt s 0<97 then false else if 122<bt s 0 then false else symFrom s 0
theorem symFrom_end (s:ByteArray):symFrom s s.size=true:=by
 unfold symFrom
 rw [List.drop_of_length_le (by simp)];rfl
theorem symFrom_step (s:ByteArray) (i:Nat) (h:i<s.size):symFrom s i=(symOk (bt s i)&&symFrom s (i+1)):=by
 unfold symFrom
 rw [List.drop_eq_getElem_cons (by simpa using h),List.all_cons];simp
theorem high_rune (s:ByteArray) (pos:Nat) (h:pos<s.size) (hb:128≤(s[pos]'h).toNat):128≤(Utf8.decode s pos).1:=by
 have hg:(s.get! (pos+0)).toNat=(s[pos]'h).toNat:=by
  rw [Nat.add_zero];show (s.data[pos]!).toNat=_;rw [getElem!_pos s.data pos h];rfl
 unfold Utf8.decode
 simp only [hg];generalize (s[pos]'h).toNat=b at hb;generalize (s.get! (pos+1)).toNat=b1;generalize (s.get! (pos+2)).toNat=b2;generalize (s.get! (pos+3)).toNat=b3;rw [if_neg (by omega)];repeat' split
 all_goals first|(simp only [Utf8.runeError];omega)|(rename_i h1;simp only [Bool.and_eq_true,decide_eq_true_eq] at h1;simp only [];omega)|(simp only [];omega)
theorem sym_decode (s:ByteArray) (pos:Nat) (h:pos<s.size):symOk ((Utf8.decode s pos).1:Int)=symOk (bt s pos)∧(symOk (bt s pos)=true→(Utf8.decode s pos).2=1):=by
 have hb:bt s (pos:Int)=((s[pos]'h).toNat:Int):=(bt_at s pos (by simpa using h)).symm
 by_cases c:(s[pos]'h).toNat<128
 ·rw [decode_ascii s pos h c,hb];exact ⟨rfl,fun _=>rfl⟩
 ·have h1:=high_rune s pos h (by omega)
  have f1:symOk ((Utf8.decode s pos).1:Int)=false:=by
   simp [symOk];omega
  have f2:symOk (bt s (pos:Int))=false:=by
   rw [hb];simp [symOk];omega
  rw [f1,f2];exact ⟨rfl,fun h=>by cases h⟩
end Go.Proofs.YtahambloheoebaaGreatDoorX
namespace Go.Proofs.YtahambloheoebaaGreatDoor.P
open Go.Proofs.YtahambloheoebaaGreatDoorX
open Go.RowKit Go.Proofs.YtahambloheoebaaGreatDoorW.PrintWords Go.Proofs.YtahambloheoebaaGreatDoorW.PrintLast Go.Proofs.YtahambloheoebaaGreatDoorW.PrintMore
attribute [local go_sem] max2_int min2_int max_two min_two max_three min_three max_four min_four
set_option linter.unusedVariables false
set_option linter.unusedSimpArgs false
open Go.Proofs.YtahambloheoebaaGreatDoorX in
def impl_goodSym.f (a0:ByteArray):Option Bool:=some (goodSymB a0)
theorem uaec_1 {p:Prop} (h:p:=by
 go_enter Tryz.func67,Tryz.ntmps67;go_wp2;go_ret;exact ⟨rfl,HB.out⟩):p:=h
theorem uaec_0 {p:Prop} (h:p:=by
 have HO:=a_ ok;clear ok;go_wp2;go_roundw
 case rel=>
  have e1:=hsy.out;rw [HO.out] at e1;have e2:=e1.2 e1.1.symm;refine ⟨pos+1,by rw [←e2];exact hit2,⟨by have:=hp'.out;omega⟩,hbw2,⟨?_⟩⟩;rw [MI.out,hst.out,←e1.1];rfl
 case measure=>
  have e1:=hsy.out;rw [HO.out] at e1;have e2:=e1.2 e1.1.symm;have e3:W1.iterPos w.heap.size=pos+(Utf8.decode a0 pos).2:=by simp [World.iterPos,hit2]
  have:=hp'.out
  have:=hpos.out
  omega):p:=h
open Go.Proofs.YtahambloheoebaaGreatDoorX in
set_option maxHeartbeats 4000000 in
set_option maxRecDepth 100000 in
theorem impl_goodSym.calls (a0:ByteArray) (r:Bool) (w:World) (h:impl_goodSym.f a0=some r):
  Calls Tryz.prog 67 #[.string a0] w fun e w'=>e=.returned (.bool r)∧Below w.heap.size w w':=by
 have h:=Option.some.inj h;subst h;have HB:=a_ (Below.refl w.heap.size w);by_cases h1:a0.size=0
 ·have hv:goodSymB a0=false:=by unfold goodSymB;rw [if_pos h1]
  rw [hv];have q1:a0.toList=[]:=by rw [ByteArray.toList_eq];exact List.eq_nil_of_length_eq_zero (by rw [Array.length_toList];exact h1)
  clear h1 hv;exact uaec_1
 have hz:0<a0.size:=by omega
 have hzz:¬(a0.toList=[]):=by
  intro e;rw [ByteArray.toList_eq] at e;have:=congrArg List.length e
  rw [Array.length_toList] at this;exact h1 this
 have q1:(a0.toList.isEmpty)=false:=by simpa using hzz
 have hbt:∀h:0<a0.size,((a0[0]'h).toNat:Int)=bt a0 0:=bt_at a0 0
 by_cases h2:20<a0.size
 ·have hv:goodSymB a0=false:=by unfold goodSymB;rw [if_neg h1,if_pos h2]
  rw [hv];have q2:decide (20<(a0.size:Int))=true:=decide_eq_true (by omega)
  clear h1 h2 hv;exact uaec_1
 have q2:decide (20<(a0.size:Int))=false:=decide_eq_false (by omega)
 by_cases h3:bt a0 0<97
 ·have hv:goodSymB a0=false:=by unfold goodSymB;rw [if_neg h1,if_neg h2,if_pos h3]
  rw [hv];have q3:decide (bt a0 0<97)=true:=decide_eq_true h3
  clear h1 h2 h3 hv;exact uaec_1
 have q3:decide (bt a0 0<97)=false:=decide_eq_false h3
 by_cases h4:122<bt a0 0
 ·have hv:goodSymB a0=false:=by unfold goodSymB;rw [if_neg h1,if_neg h2,if_neg h3,if_pos h4]
  rw [hv];have q4:decide (122<bt a0 0)=true:=decide_eq_true h4
  clear h1 h2 h3 h4 hv;exact uaec_1
 have q4:decide (122<bt a0 0)=false:=decide_eq_false h4
 have hv:goodSymB a0=symFrom a0 0:=by unfold goodSymB;rw [if_neg h1,if_neg h2,if_neg h3,if_neg h4]
 rw [hv];have HS:=a_ (show a0.size≤20 by omega);clear h1 h2 h3 h4 hv;go_enter Tryz.func67,Tryz.ntmps67;go_wp2;clear q1 q2 q3 q4 hzz hbt;go_loopw [4] (fun _ wr=>∃pos:Nat,wr.heap[w.heap.size]?=some (.stringIter a0 pos)∧Aside0 (pos≤a0.size)∧Aside0 (Below w.heap.size w wr)∧Aside0 (symFrom a0 0=symFrom a0 pos)) (fun _ wr=>a0.size-wr.iterPos w.heap.size)
 case atStart=>exact ⟨0,World.iter_heap w a0 0,⟨Nat.zero_le _⟩,⟨(Below.refl _ _).alloc (Nat.le_refl _) _⟩,⟨rfl⟩⟩
 obtain ⟨pos,hit,hle,BW,MI⟩:=hrel;have hpos0:wr.iterPos w.heap.size=pos:=by simp [World.iterPos,hit]
 by_cases hp:pos<a0.size
 ·have hnx:∀ty,(Instr.next (.pointer (some ⟨w.heap.size,0,none⟩)) true ty).run Tryz.prog wr=_:=fun ty=>Lib.run_next_any_at wr w.heap.size a0 pos ty hit hp
  have hit2:=Lib.iterAt_heap wr w.heap.size a0 pos (pos+(Utf8.decode a0 pos).2) hit;have hbw2:=a_ (Lib.below_iterAt BW.out (k:=w.heap.size) (Nat.le_refl _) a0 (pos+(Utf8.decode a0 pos).2));obtain ⟨W1,hW1⟩:∃W1,W1=wr.iterAt w.heap.size a0 (pos+(Utf8.decode a0 pos).2):=⟨_,rfl⟩;rw [←hW1] at hnx hit2 hbw2;have hsy:=a_ (sym_decode a0 pos hp);have hst:=a_ (symFrom_step a0 pos hp);have hlo:(0:Int)≤((Utf8.decode a0 pos).1:Int):=by omega
  have hhi:((Utf8.decode a0 pos).1:Int)≤1114111:=by have:=Lib.rune_le a0 pos;omega
  have hp':=a_ hp;have hpos:=a_ hpos0;clear hW1 hit hp hpos0;generalize hc:((Utf8.decode a0 pos).1:Int)=c at hnx hlo hhi hsy;clear hc;by_cases g1:97≤c∧c≤122
  ·obtain ⟨g1,g2⟩:=g1;have k0:decide (97≤c)=true:=decide_eq_true (by omega)
   have k1:decide (c≤122)=true:=decide_eq_true (by omega)
   have ok:symOk c=true:=by simp [symOk];omega
   exact uaec_0
  have a1:(decide (97≤c)=true∧decide (c≤122)=false)∨decide (97≤c)=false:=by
   by_cases e1:97≤c
   ·exact .inl ⟨decide_eq_true e1,decide_eq_false (by omega)⟩
   ·exact .inr (decide_eq_false e1)
  by_cases g3:48≤c∧c≤57
  ·obtain ⟨g3,g4⟩:=g3;clear a1;have k0:decide (97≤c)=false:=decide_eq_false (by omega)
   have k1:decide (48≤c)=true:=decide_eq_true (by omega)
   have k2:decide (c≤57)=true:=decide_eq_true (by omega)
   have ok:symOk c=true:=by simp [symOk];omega
   exact uaec_0
  by_cases g5:c=45
  ·subst g5;clear a1;have k0:decide ((97:Int)≤45)=false:=decide_eq_false (by omega)
   have k1:decide ((48:Int)≤45)=false:=decide_eq_false (by omega)
   have ok:symOk 45=true:=by rfl
   exact uaec_0
  have k5:(c==45)=false:=beq_eq_false_iff_ne.mpr g5
  have a2:(decide (48≤c)=true∧decide (c≤57)=false)∨decide (48≤c)=false:=by
   by_cases e1:48≤c
   ·exact .inl ⟨decide_eq_true e1,decide_eq_false (by omega)⟩
   ·exact .inr (decide_eq_false e1)
  rcases a1 with ⟨k0,k1⟩|k0<;>rcases a2 with ⟨k2,k3⟩|k2
  all_goals
   have ok:symOk c=false:=by simp [symOk];omega
   have HO:=a_ ok;clear ok;go_wp2;go_ret;refine ⟨?_,hbw2.out⟩;have e1:=hsy.out.1;rw [HO.out] at e1;rw [MI.out,hst.out,←e1];rfl
 ·have e:pos=a0.size:=by have:=hle.out;omega
  have hnx:∀ty,(Instr.next (.pointer (some ⟨w.heap.size,0,none⟩)) true ty).run Tryz.prog wr=_:=fun ty=>Lib.run_next_end_at wr w.heap.size a0 pos ty hit hp
  have HE:=a_ e;clear e hpos0 hp;go_wp2;go_ret;refine ⟨?_,BW.out⟩;rw [MI.out,HE.out,symFrom_end];rfl
end Go.Proofs.YtahambloheoebaaGreatDoor.P
namespace Go.Proofs.YtahambloheoebaaGreatDoor.P
open Go.Proofs.YtahambloheoebaaGreatDoorX
open Go.RowKit Go.Proofs.YtahambloheoebaaGreatDoorW.PrintWords Go.Proofs.YtahambloheoebaaGreatDoorW.PrintLast Go.Proofs.YtahambloheoebaaGreatDoorW.PrintMore
attribute [local go_sem] max2_int min2_int max_two min_two max_three min_three max_four min_four
set_option linter.unusedVariables false
set_option linter.unusedSimpArgs false
def impl_goodCls.f (a0:ByteArray):Option (Bool):=(impl_goodSym.f a0).bind fun t343=>(if t343=true then (some (a0.toList != ([110,111,116]:List UInt8))) else (some false))
theorem u4fc_0 {p:Prop} (h:p:=by
 obtain rfl:=oi_ H;go_enter Tryz.func113,Tryz.ntmps113;go_wp2_with (first|((with_reducible refine gate_callee (f:=67) rfl ?_);refine goesL_ (some 4) rfl rfl Tryz.func67 (by kernel_rfl) rfl #[.string a0] rfl mw_ ?_;(with_reducible refine (impl_goodSym.calls a0 true _ A2.out).mono ?_);rintro e wx ⟨rfl,hb⟩;refine ⟨_,rfl,?_⟩;replace HB:=ms_ HB hb;(try clear hb))|((with_reducible refine gate_callee (f:=67) rfl ?_);refine goesL_ (some 4) rfl rfl Tryz.func67 (by kernel_rfl) rfl #[.string a0] rfl mw_ ?_;(with_reducible refine (impl_goodSym.calls a0 false _ A2.out).mono ?_);rintro e wx ⟨rfl,hb⟩;refine ⟨_,rfl,?_⟩;replace HB:=ms_ HB hb;(try clear hb)));go_ret;exact ⟨me_,mb_ HB⟩):p:=h
set_option maxHeartbeats 8000000 in
set_option maxRecDepth 100000 in
theorem impl_goodCls.calls (a0:ByteArray) (r:Bool) (w:World) (h:impl_goodCls.f a0=some r):
  Calls Tryz.prog 113 #[.string a0] w fun e w'=>e=.returned (.bool r)∧Below w.heap.size w w':=by
 have HB:=a_ (Below.refl w.heap.size w);have H:=h;unfold impl_goodCls.f at H
 clear h;obtain ⟨t343,A2,H⟩:=ob_ H;by_cases c3:t343=true
 ·subst c3;rw [if_pos rfl] at H;exact u4fc_0
 ·replace c3:=Bool.eq_false_iff.mpr c3;subst c3;rw [if_neg (show ¬(false=true) by decide)] at H;exact u4fc_0
end Go.Proofs.YtahambloheoebaaGreatDoor.P
namespace Go.Proofs.YtahambloheoebaaGreatDoor.P
open Go.Proofs.YtahambloheoebaaGreatDoorX
open Go.RowKit Go.Proofs.YtahambloheoebaaGreatDoorW.PrintWords Go.Proofs.YtahambloheoebaaGreatDoorW.PrintLast Go.Proofs.YtahambloheoebaaGreatDoorW.PrintMore
attribute [local go_sem] max2_int min2_int max_two min_two max_three min_three max_four min_four
set_option linter.unusedVariables false
set_option linter.unusedSimpArgs false
open Go.Proofs.YtahambloheoebaaGreatDoorX in
def encTerm (x:S86):Value:=.agg #[.int .i64 (x).f0,.int .i64 (x).f1,.string (x).f2,.int .i64 (x).f3.f0,.int .i64 (x).f3.f1,.string (x).f3.f2]
open Go.Proofs.YtahambloheoebaaGreatDoorX in
set_option maxHeartbeats 2000000 in
set_option maxRecDepth 100000 in
theorem idxTerm.calls (g:Nat) (lb:Array Value) (eg:∀args w,(callFunc g args).run Tryz.prog w=.ok (.enter g args) w) (p:S86→Bool) (A:Option Addr) (c:Nat) (xs:List S86) (w:World)
  (hr:Kd.C k86 w A xs.length xs) (hc:xs.length≤c) (hm:xs.length≤bigN) (hp:PredB Tryz.prog g lb encTerm p xs w):
  Calls Tryz.prog 153 #[.slice A xs.length c,.func (.func g) #[] lb] w fun e w'=>e=.returned (.int .i64 (idxB p xs))∧Below w.heap.size w w':=by
 have hm:=le_of_bigN hm;have HR0:=a_ hr;have HC0:=a_ hc;have HP:=a_ hp;clear hr hc hp;go_enter Tryz.func153,Tryz.ntmps153;go_wp2;go_loopg [5,8] xs.length (fun gg _ s8 wr=>∃kk:Nat,kk≤xs.length∧xs.length-kk≤gg∧s8=.int .i64 kk∧Aside0 (Below w.heap.size w wr)∧Aside0 (∀j,j<kk→p (xs.getD j z86)=false))
 case atStart=>exact ⟨0,Nat.zero_le _,by omega,rfl,⟨Below.refl _ w⟩,⟨fun j hj=>absurd hj (Nat.not_lt_zero _)⟩⟩
 obtain ⟨kk,hkk,hg,rfl,BW,MI⟩:=hrel;by_cases hlt:kk<xs.length
 ·have hltz:(kk:Int)<(xs.length:Int):=by omega
  obtain ⟨ad,e0,hx0,hx1,hx2,hx3,hx4,hx5⟩:=at_T86 HR0.out (kk:Int) (by omega) hltz;cases e0;replace hx0:=(BW.out.cell (World.block_lt_of_cell? w _ hx0)).trans hx0;replace hx1:=(BW.out.cell (World.block_lt_of_cell? w _ hx1)).trans hx1;replace hx2:=(BW.out.cell (World.block_lt_of_cell? w _ hx2)).trans hx2;replace hx3:=(BW.out.cell (World.block_lt_of_cell? w _ hx3)).trans hx3;replace hx4:=(BW.out.cell (World.block_lt_of_cell? w _ hx4)).trans hx4;replace hx5:=(BW.out.cell (World.block_lt_of_cell? w _ hx5)).trans hx5;have hrd:rd_T86 xs (kk:Int)=xs.getD kk z86:=by simp [rd_T86]
  have hcall:=HP.out wr (xs.getD kk z86) (getD_mem hlt) BW.out;rw [hrd] at hx0 hx1 hx2 hx3 hx4 hx5;simp only [Int.toNat_natCast] at hx0 hx1 hx2 hx3 hx4 hx5;have HL:=a_ hlt;clear hrd;generalize hy:xs.getD kk z86=y at hx0 hx1 hx2 hx3 hx4 hx5 hcall;have HY:=a_ hy;clear hy;simp only [encTerm] at hcall;cases hq:p y with
  | true=>
   rw [hq] at hcall;have HQ:=a_ hq;have HH:=a_ hcall;clear hq hcall;go_wp2_with (go_at_fn g;refine HH.out.mono ?_;rintro e w' ⟨rfl,hb'⟩);go_ret;refine ⟨?_,below_then BW.out BW.out.size hb'⟩;rw [idxB_hit p xs kk z86 HL.out (by rw [HY.out];exact HQ.out) MI.out];rfl
  | false=>
   rw [hq] at hcall;have HQ:=a_ hq;have HH:=a_ hcall;clear hq hcall;go_wp2_with (go_at_fn g;refine HH.out.mono ?_;rintro e w' ⟨rfl,hb'⟩);go_roundg (xs.length-(kk+1))
   case measure=>omega
   case rel=>
    refine ⟨kk+1,by omega,by omega,by go_num,⟨below_then BW.out BW.out.size hb'⟩,⟨fun j hj=>?_⟩⟩;by_cases e:j=kk
    ·subst e;rw [HY.out];exact HQ.out
    ·exact MI.out j (by omega)
 ·have hltz:¬(kk:Int)<(xs.length:Int):=by omega
  have hk:kk=xs.length:=by omega
  have HK:=a_ hk;clear hk;go_wp2;go_ret;refine ⟨?_,BW.out⟩
  have hmiss:∀x,x∈xs→p x=false:=by
   intro x hx;obtain ⟨j,hj,e⟩:=List.getElem_of_mem hx;have:=MI.out j (by have:=HK.out;omega)
   rw [List.getD_eq_getElem?_getD,List.getElem?_eq_getElem hj] at this;rw [←e];exact this
  rw [idxB_miss p xs hmiss];rfl
end Go.Proofs.YtahambloheoebaaGreatDoor.P
namespace Go.Proofs.YtahambloheoebaaGreatDoor.P
open Go.Proofs.YtahambloheoebaaGreatDoorX
open Go.RowKit Go.Proofs.YtahambloheoebaaGreatDoorW.PrintWords Go.Proofs.YtahambloheoebaaGreatDoorW.PrintLast Go.Proofs.YtahambloheoebaaGreatDoorW.PrintMore
attribute [local go_sem] max2_int min2_int max_two min_two max_three min_three max_four min_four
set_option linter.unusedVariables false
set_option linter.unusedSimpArgs false
open Go.Proofs.YtahambloheoebaaGreatDoorX in
set_option maxHeartbeats 2000000 in
set_option maxRecDepth 100000 in
theorem containsTerm.calls (g:Nat) (lb:Array Value) (eg:∀args w,(callFunc g args).run Tryz.prog w=.ok (.enter g args) w) (p:S86→Bool) (A:Option Addr) (c:Nat) (xs:List S86) (w:World)
  (hr:Kd.C k86 w A xs.length xs) (hc:xs.length≤c) (hm:xs.length≤bigN) (hp:PredB Tryz.prog g lb encTerm p xs w):
  Calls Tryz.prog 114 #[.slice A xs.length c,.func (.func g) #[] lb] w fun e w'=>e=.returned (.bool (xs.any p))∧Below w.heap.size w w':=by
 have hcall:=idxTerm.calls g lb eg p A c xs w hr hc hm hp;rw [←idxB_any];have HH:=a_ hcall;clear hcall hr hc hm hp;go_enter Tryz.func114,Tryz.ntmps114;go_wp2_with (go_at_call 153;refine HH.out.mono ?_;rintro e w' ⟨rfl,hb'⟩);go_ret;exact ⟨rfl,hb'⟩
end Go.Proofs.YtahambloheoebaaGreatDoor.P
namespace Go.Proofs.YtahambloheoebaaGreatDoor.P
open Go.Proofs.YtahambloheoebaaGreatDoorX
open Go.RowKit Go.Proofs.YtahambloheoebaaGreatDoorW.PrintWords Go.Proofs.YtahambloheoebaaGreatDoorW.PrintLast Go.Proofs.YtahambloheoebaaGreatDoorW.PrintMore
attribute [local go_sem] max2_int min2_int max_two min_two max_three min_three max_four min_four
set_option linter.unusedVariables false
set_option linter.unusedSimpArgs false
def impl_Value_good.f (a0_0:Int) (a0_1:Int) (a0_2:ByteArray):Option (Bool):=if a0_0=0 then (some (a0_2.toList==([]:List UInt8))) else (if a0_0=1 then (if a0_1=0 then ((impl_goodSym.f a0_2).bind fun t345=>(some t345)) else (some false)) else (some false))
theorem u488_0 {p:Prop} (h:p:=by
 obtain rfl:=oi_ H;go_enter Tryz.func120,Tryz.ntmps120;go_wp2_with (first|((with_reducible refine gate_dst (N:=1) rfl ?_);refine bh_ 1 #[.int .i64 a0_0,.int .i64 a0_1,.string a0_2] 80 HB ?_;intro gb344 hg wx BK344 GE344 hb;replace HB:=ms_ HB hb;clear hb hg;replace hz344:=cz3 BK344)|(go_at_call 67;(with_reducible refine (impl_goodSym.calls a0_2 t345 _ A7.out).mono ?_);rintro e wx ⟨rfl,hb⟩;replace BK344:=mk_ BK344 hb;replace HB:=ms_ HB hb;(try clear hb)));go_ret;exact ⟨me_,mb_ HB⟩):p:=h
set_option maxHeartbeats 8000000 in
set_option maxRecDepth 100000 in
theorem impl_Value_good.calls (a0_0:Int) (a0_1:Int) (a0_2:ByteArray) (r:Bool) (w:World) (h:impl_Value_good.f a0_0 a0_1 a0_2=some r):
  Calls Tryz.prog 120 #[.agg #[.int .i64 a0_0,.int .i64 a0_1,.string a0_2]] w fun e w'=>e=.returned (.bool r)∧Below w.heap.size w w':=by
 have hu80:=Tryz.underlying80;have HB:=a_ (Below.refl w.heap.size w);have H:=h;unfold impl_Value_good.f at H
 clear h;by_cases c2:a0_0=0
 ·rw [if_pos c2] at H;obtain ⟨c2b0,c2b1⟩:=bq_ c2;clear c2;exact u488_0
 ·rw [if_neg c2] at H;obtain ⟨c2b0,c2b1⟩:=bn_ c2;by_cases c5:a0_0=1
  ·rw [if_pos c5] at H;obtain ⟨c5b0,c5b1⟩:=bq_ c5;clear c5;by_cases c6:a0_1=0
   ·rw [if_pos c6] at H;obtain ⟨c6b0,c6b1⟩:=bq_ c6;clear c6;obtain ⟨t345,A7,H⟩:=ob_ H;exact u488_0
   ·rw [if_neg c6] at H;obtain ⟨c6b0,c6b1⟩:=bn_ c6;exact u488_0
  ·rw [if_neg c5] at H;obtain ⟨c5b0,c5b1⟩:=bn_ c5;exact u488_0
end Go.Proofs.YtahambloheoebaaGreatDoor.P
namespace Go.Proofs.YtahambloheoebaaGreatDoor.P
open Go.Proofs.YtahambloheoebaaGreatDoorX
open Go.RowKit Go.Proofs.YtahambloheoebaaGreatDoorW.PrintWords Go.Proofs.YtahambloheoebaaGreatDoorW.PrintLast Go.Proofs.YtahambloheoebaaGreatDoorW.PrintMore
attribute [local go_sem] max2_int min2_int max_two min_two max_three min_three max_four min_four
set_option linter.unusedVariables false
set_option linter.unusedSimpArgs false
def goodValueB (v:S80):Bool:=(impl_Value_good.f v.f0 v.f1 v.f2).getD false
theorem goodValueB_some (v:S80):impl_Value_good.f v.f0 v.f1 v.f2=some (goodValueB v):=by
 unfold goodValueB
 have:∃r,impl_Value_good.f v.f0 v.f1 v.f2=some r:=by
  unfold impl_Value_good.f
  simp only [impl_goodSym.f,Option.bind_some];repeat' split
  all_goals exact ⟨_,rfl⟩
 obtain ⟨r,hr⟩:=this;rw [hr];rfl
open Go.Proofs.YtahambloheoebaaGreatDoorX
def zeroValB (v:S80):Bool:=v.f0==0&&(v.f1==0&&v.f2.toList.isEmpty)
def goodTermB (t:S86):Bool:=
 if t.f0=0 then t.f1==0&&(t.f2.toList.isEmpty&&zeroValB t.f3)
 else if t.f0=1 then (t.f1==0&&t.f2.toList.isEmpty)&&goodValueB t.f3
 else if t.f0=2 then (t.f1==0&&zeroValB t.f3)&&goodSymB t.f2
 else if t.f0=3 then if t.f1<1 then false else if 6<t.f1 then false else if t.f2.toList.isEmpty then goodValueB t.f3 else goodSymB t.f2&&zeroValB t.f3
 else false
def impl_Term_good.f (a0_0 a0_1:Int) (a0_2:ByteArray) (a0_3 a0_4:Int) (a0_5:ByteArray):Option Bool:=some (goodTermB ⟨a0_0,a0_1,a0_2,⟨a0_3,a0_4,a0_5⟩⟩)
theorem ne_tf {x y:Int} (h:x≠y):(x==y)=false:=beq_eq_false_iff_ne.mpr h
theorem ua20_0 {p:Prop} (h:p:=by
 go_enter Tryz.func116,Tryz.ntmps116;go_wp2;all_goals go_ret
 all_goals exact ⟨by first|rfl|(simp;done)|(simp [*];done)|(simp_all;done),by repeat (first|exact HB.out|apply below_drew|apply below_alloc)⟩):p:=h
set_option maxHeartbeats 8000000 in
set_option maxRecDepth 100000 in
theorem impl_Term_good.calls (a0_0 a0_1:Int) (a0_2:ByteArray) (a0_3 a0_4:Int) (a0_5:ByteArray) (r:Bool) (w:World) (h:impl_Term_good.f a0_0 a0_1 a0_2 a0_3 a0_4 a0_5=some r):
  Calls Tryz.prog 116 #[.agg #[.int .i64 a0_0,.int .i64 a0_1,.string a0_2,.int .i64 a0_3,.int .i64 a0_4,.string a0_5]] w fun e w'=>e=.returned (.bool r)∧Below w.heap.size w w':=by
 have h:=Option.some.inj h;subst h;have hu:=Tryz.underlying86;have hu1:=Tryz.underlying80;have HB:=a_ (Below.refl w.heap.size w);have HV:=a_ (goodValueB_some ⟨a0_3,a0_4,a0_5⟩);have HS:Aside0 (impl_goodSym.f a0_2=some (goodSymB a0_2)):=⟨rfl⟩
 by_cases k0:a0_0=0
 ·subst k0;rw [show goodTermB _=(a0_1==0&&(a0_2.toList.isEmpty&&(a0_3==0&&(a0_4==0&&a0_5.toList.isEmpty)))) by simp [goodTermB,zeroValB]];exact ua20_0
 have q0:=ne_tf k0;by_cases k1:a0_0=1
 ·subst k1;by_cases e1:a0_1=0
  ·subst e1;cases e2:a0_2.toList.isEmpty with
   | true=>
    rw [show goodTermB _=goodValueB ⟨a0_3,a0_4,a0_5⟩ by simp [goodTermB,e2]];go_enter Tryz.func116,Tryz.ntmps116;go_wp2_with (go_at_call 120;refine (impl_Value_good.calls _ _ _ _ _ HV.out).mono ?_;rintro e w' ⟨rfl,hd⟩);all_goals go_ret
    all_goals exact ⟨by first|rfl|(simp;done)|(simp [*];done)|(simp_all;done),Below.trans (by repeat (first|exact HB.out|apply below_drew|apply below_alloc)) (hd.mono (by simp;omega))⟩
   | false=>
    rw [show goodTermB _=false by simp [goodTermB,e2]];go_enter Tryz.func116,Tryz.ntmps116;go_wp2;all_goals go_ret
    all_goals exact ⟨by first|rfl|(simp;done)|(simp [*];done)|(simp_all;done),by repeat (first|exact HB.out|apply below_drew|apply below_alloc)⟩
  ·have p1:=ne_tf e1;rw [show goodTermB _=false by simp [goodTermB,e1]];exact ua20_0
 have q1:=ne_tf k1;by_cases k2:a0_0=2
 ·subst k2;by_cases e1:a0_1=0
  ·subst e1;by_cases e3:a0_3=0
   ·subst e3;by_cases e4:a0_4=0
    ·subst e4;cases e5:a0_5.toList.isEmpty with
     | true=>
      rw [show goodTermB _=goodSymB a0_2 by simp [goodTermB,zeroValB,e5]];go_enter Tryz.func116,Tryz.ntmps116;go_wp2_with (go_at_call 67;refine (impl_goodSym.calls _ _ _ HS.out).mono ?_;rintro e w' ⟨rfl,hd⟩);all_goals go_ret
      all_goals exact ⟨by first|rfl|(simp;done)|(simp [*];done)|(simp_all;done),Below.trans (by repeat (first|exact HB.out|apply below_drew|apply below_alloc)) (hd.mono (by simp;omega))⟩
     | false=>
      rw [show goodTermB _=false by simp [goodTermB,zeroValB,e5]];go_enter Tryz.func116,Tryz.ntmps116;go_wp2;all_goals go_ret
      all_goals exact ⟨by first|rfl|(simp;done)|(simp [*];done)|(simp_all;done),by repeat (first|exact HB.out|apply below_drew|apply below_alloc)⟩
    ·have p4:=ne_tf e4;rw [show goodTermB _=false by simp [goodTermB,zeroValB,e4]];exact ua20_0
   ·have p3:=ne_tf e3;rw [show goodTermB _=false by simp [goodTermB,zeroValB,e3]];exact ua20_0
  ·have p1:=ne_tf e1;rw [show goodTermB _=false by simp [goodTermB,zeroValB,e1]];exact ua20_0
 have q2:=ne_tf k2;by_cases k3:a0_0=3
 ·subst k3;by_cases e1:a0_1<1
  ·have p1:decide (a0_1<1)=true:=decide_eq_true e1
   rw [show goodTermB _=false by simp [goodTermB,e1]];exact ua20_0
  have p1:decide (a0_1<1)=false:=decide_eq_false e1
  by_cases e2:6<a0_1
  ·have p2:decide (6<a0_1)=true:=decide_eq_true e2
   rw [show goodTermB _=false by simp [goodTermB,e1,e2]];exact ua20_0
  have p2:decide (6<a0_1)=false:=decide_eq_false e2
  cases e3:a0_2.toList.isEmpty with
  | true=>
   rw [show goodTermB _=goodValueB ⟨a0_3,a0_4,a0_5⟩ by simp [goodTermB,e1,e2,e3]];go_enter Tryz.func116,Tryz.ntmps116;go_wp2_with (go_at_call 120;refine (impl_Value_good.calls _ _ _ _ _ HV.out).mono ?_;rintro e w' ⟨rfl,hd⟩);all_goals go_ret
   all_goals exact ⟨by first|rfl|(simp;done)|(simp [*];done)|(simp_all;done),Below.trans (by repeat (first|exact HB.out|apply below_drew|apply below_alloc)) (hd.mono (by simp;omega))⟩
  | false=>
   cases e4:goodSymB a0_2 with
   | true=>
    rw [e4] at HS;rw [show goodTermB _=(a0_3==0&&(a0_4==0&&a0_5.toList.isEmpty)) by simp [goodTermB,zeroValB,e1,e2,e3,e4]];go_enter Tryz.func116,Tryz.ntmps116;go_wp2_with (go_at_call 67;refine (impl_goodSym.calls _ _ _ HS.out).mono ?_;rintro e w' ⟨rfl,hd⟩;obtain ⟨hc1,hf1⟩:=cellsBelow hd rfl);all_goals go_ret
    all_goals exact ⟨by first|rfl|(simp;done)|(simp [*];done)|(simp_all;done),Below.trans (by repeat (first|exact HB.out|apply below_drew|apply below_alloc)) (hd.mono (by simp;omega))⟩
   | false=>
    rw [e4] at HS;rw [show goodTermB _=false by simp [goodTermB,e1,e2,e3,e4]];go_enter Tryz.func116,Tryz.ntmps116;go_wp2_with (go_at_call 67;refine (impl_goodSym.calls _ _ _ HS.out).mono ?_;rintro e w' ⟨rfl,hd⟩);all_goals go_ret
    all_goals exact ⟨by first|rfl|(simp;done)|(simp [*];done)|(simp_all;done),Below.trans (by repeat (first|exact HB.out|apply below_drew|apply below_alloc)) (hd.mono (by simp;omega))⟩
 have q3:=ne_tf k3;rw [show goodTermB _=false by simp [goodTermB,k0,k1,k2,k3]];exact ua20_0
end Go.Proofs.YtahambloheoebaaGreatDoor.P
namespace Go.Proofs.YtahambloheoebaaGreatDoor.P
open Go.Proofs.YtahambloheoebaaGreatDoorX
open Go.RowKit Go.Proofs.YtahambloheoebaaGreatDoorW.PrintWords Go.Proofs.YtahambloheoebaaGreatDoorW.PrintLast Go.Proofs.YtahambloheoebaaGreatDoorW.PrintMore
attribute [local go_sem] max2_int min2_int max_two min_two max_three min_three max_four min_four
set_option linter.unusedVariables false
set_option linter.unusedSimpArgs false
theorem goodTermB_some (v:S86):impl_Term_good.f v.f0 v.f1 v.f2 v.f3.f0 v.f3.f1 v.f3.f2=some (goodTermB v):=rfl
open Go.Proofs.YtahambloheoebaaGreatDoorX in
set_option maxHeartbeats 2000000 in
set_option maxRecDepth 100000 in
theorem badTerm.calls (v:S86) (w:World):
  Calls Tryz.prog 115 (#[encTerm v]++#[]) w fun e w'=>e=.returned (.bool (!goodTermB v))∧Below w.heap.size w w':=by
 have hu:=Tryz.underlying86;have HB:=a_ (Below.refl w.heap.size w);have ea:#[encTerm v]++#[]=#[.agg #[.int .i64 (v).f0,.int .i64 (v).f1,.string (v).f2,.int .i64 (v).f3.f0,.int .i64 (v).f3.f1,.string (v).f3.f2]]:=rfl
 rw [ea];clear ea;have hg:=goodTermB_some v;have HG:=a_ hg;clear hg;go_enter Tryz.func115,Tryz.ntmps115;go_wp2_with (go_at_call 116;refine (impl_Term_good.calls _ _ _ _ _ _ _ _ HG.out).mono ?_;rintro e w' ⟨rfl,hd⟩);go_ret;exact ⟨rfl,Below.trans (by repeat (first|exact HB.out|apply below_alloc)) (hd.mono (by simp))⟩
open Go.Proofs.YtahambloheoebaaGreatDoorX in
def goodClsB (s:ByteArray):Bool:=goodSymB s&&(s.toList != ([110,111,116]:List UInt8))
theorem goodCls_some (s:ByteArray):impl_goodCls.f s=some (goodClsB s):=by
 unfold impl_goodCls.f impl_goodSym.f goodClsB
 simp only [Option.bind_some];cases Go.Proofs.YtahambloheoebaaGreatDoorX.goodSymB s<;>rfl
def goodPatB (cls:ByteArray) (ts:List S86):Bool:=goodClsB cls&&(decide (ts.length≤6)&&ts.all goodTermB)
def impl_Pattern_good.f (a0_0:Bool) (a0_1:ByteArray) (l0_2:List S86):Option Bool:=some (goodPatB a0_1 l0_2)
open Go.Proofs.YtahambloheoebaaGreatDoorX in
set_option maxHeartbeats 4000000 in
set_option maxRecDepth 100000 in
theorem impl_Pattern_good.calls (a0_0:Bool) (a0_1:ByteArray) (A0_2:Option Addr) (c0_2:Nat) (l0_2:List S86) (r:Bool) (w:World) (hr0_2:Kd.C k86 w A0_2 l0_2.length l0_2) (hc0_2:l0_2.length≤c0_2) (h:impl_Pattern_good.f a0_0 a0_1 l0_2=some r):
  Calls Tryz.prog 64 #[.agg #[.bool a0_0,.string a0_1,.slice A0_2 l0_2.length c0_2]] w fun e w'=>e=.returned (.bool r)∧Below w.heap.size w w':=by
 have h:=Option.some.inj h;subst h;have hu:=Tryz.underlying42;have HB:=a_ (Below.refl w.heap.size w);have HR:=a_ hr0_2;have HC:=a_ hc0_2;have HG:=a_ (goodCls_some a0_1);clear hr0_2 hc0_2;have hu0:=Tryz.underlying86;cases h0:goodClsB a0_1 with
 | true=>
  rw [h0] at HG;by_cases h1:l0_2.length≤6
  ·have q1:decide ((l0_2.length:Int)≤6)=true:=decide_eq_true (by omega)
   have HM:=a_ (show l0_2.length≤bigN by unfold bigN;omega)
   have hv:goodPatB a0_1 l0_2 = !(l0_2.any fun v=>!goodTermB v):=by
    unfold goodPatB
    rw [h0,decide_eq_true h1,Bool.true_and,Bool.true_and,List.not_any_eq_all_not];congr 1
    funext v
    simp
   rw [hv];clear h0 h1 hv;go_enter Tryz.func64,Tryz.ntmps64
   go_wp2_with (first
    | (go_at_call 113;refine (impl_goodCls.calls _ _ _ HG.out).mono ?_;rintro e w1 ⟨rfl,hd⟩;obtain ⟨hc1,hf1⟩:=cellsBelow hd rfl)
    | (go_at_call 114;refine (containsTerm.calls 115 _ (enters_of Tryz.func115 (by kernel_rfl) rfl) (fun v=>!goodTermB v) _ _ l0_2 _ ?hr HC.out HM.out ?hp).mono ?hk))
   case hr=>exact Kd.C_below HR.out (Below.trans (by repeat (first|exact HB.out|apply below_alloc)) (hd.mono (by first|(simp;done)|(simp;omega))))
   case hp=>exact fun W x _ _=>badTerm.calls x W
   case hk=>
    first|rintro e w2 ⟨rfl,hd2⟩|rintro e w2 rfl hd2
    go_wp2;go_ret;exact ⟨rfl,Below.trans (Below.trans (by repeat (first|exact HB.out|apply below_alloc)) (hd.mono (by first|(simp;done)|(simp;omega)))) (hd2.mono (by have:=hd.size;simp at this;omega))⟩
  ·have q1:decide ((l0_2.length:Int)≤6)=false:=decide_eq_false (by omega)
   have hv:goodPatB a0_1 l0_2=false:=by unfold goodPatB;rw [h0,decide_eq_false h1];rfl
   rw [hv];clear h0 h1 hv;go_enter Tryz.func64,Tryz.ntmps64;go_wp2_with (go_at_call 113;refine (impl_goodCls.calls _ _ _ HG.out).mono ?_;rintro e w1 ⟨rfl,hd⟩;obtain ⟨hc1,hf1⟩:=cellsBelow hd rfl);go_ret;exact ⟨rfl,Below.trans (by repeat (first|exact HB.out|apply below_alloc)) (hd.mono (by first|(simp;done)|(simp;omega)))⟩
 | false=>
  rw [h0] at HG;have hv:goodPatB a0_1 l0_2=false:=by unfold goodPatB;rw [h0];rfl
  rw [hv];clear h0 hv;go_enter Tryz.func64,Tryz.ntmps64;go_wp2_with (go_at_call 113;refine (impl_goodCls.calls _ _ _ HG.out).mono ?_;rintro e w1 ⟨rfl,hd⟩;obtain ⟨hc1,hf1⟩:=cellsBelow hd rfl);go_ret;exact ⟨rfl,Below.trans (by repeat (first|exact HB.out|apply below_alloc)) (hd.mono (by first|(simp;done)|(simp;omega)))⟩
end Go.Proofs.YtahambloheoebaaGreatDoor.P
