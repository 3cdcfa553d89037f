/- The row of the law FnExactAlphaNet: for every input the call returns true, and each argument reads behind it as it read before; no condition of ours. -/
import Derived.OneCell
import Derived.RangeFuncBox
import Derived.IntWalk
import Derived.BigQuiet
import Derived.Deep.QuietTactic
import Derived.Test.YtahambloheoebaaGreatDoorQAn5
set_option linter.unusedVariables false
set_option linter.unusedSimpArgs false
namespace Go.Proofs.YtahambloheoebaaGreatDoor.P
open Go.Proofs.YtahambloheoebaaGreatDoorX
open Go.RowKit Go.Proofs.YtahambloheoebaaGreatDoorW.PrintWords Go.Proofs.YtahambloheoebaaGreatDoorW.PrintLast Go.Proofs.YtahambloheoebaaGreatDoorW.PrintMore
attribute [local go_sem] ww_ wx_ max_two min_two wc_ wb_ wu_ wv_
def zv_.l0:Nat→List (S42)→List (S42)→Int→Option (Bool)
 | 0,_,_,_=>none
 | k+1,x0,x1,x5=>if x5<(x0.length:Int) then (if 0≤x5 then (if x5<(x1.length:Int) then ((w8_.f k ((zq_ x0 x5).f0) ((zq_ x0 x5).f1) ((zq_ x0 x5).f2) ((zq_ x1 x5).f0) ((zq_ x1 x5).f1) ((zq_ x1 x5).f2)).bind fun t267=>(if t267=true then (zv_.l0 k x0 x1 (wrap64 (x5+1))) else (some false))) else (none)) else (none)) else (some true)
def zv_.f (k:Nat) (l0:List (S42)) (l1:List (S42)):Option (Bool):=if (l0.length:Int)=(l1.length:Int) then (zv_.l0 k l0 l1 0) else (some false)
theorem zv_.y6_:∀k,(∀y0 y1 y2,LeO (zv_.l0 k y0 y1 y2) (zv_.l0 (k+1) y0 y1 y2))
 | 0=>fun _ _ _ r h=>by simp [zv_.l0] at h
 | k+1=>by
  have ih0:=zv_.y6_ k
  ·intro y0 y1 y2;unfold zv_.l0
   repeat' with_reducible first|apply ih0|apply w8_.mono|apply LeO.refl|apply LeO.none|refine LeO.ite ?_ ?_|refine LeO.bind ?_ (fun _=>?_)
theorem zv_.mono:∀a0 a1 k,LeO (zv_.f k a0 a1) (zv_.f (k+1) a0 a1):=by
 intro a0 a1 k;have ih0:=zv_.y6_ k;unfold zv_.f
 repeat' with_reducible first|apply ih0|apply w8_.mono|apply LeO.refl|apply LeO.none|refine LeO.ite ?_ ?_|refine LeO.bind ?_ (fun _=>?_)
def zv_.T6:Bool×List (List Nat×List Nat):=(true,[([],[]),([],[]),([0,1],[0,1]),([2],[2]),([],[]),([],[]),([4,5],[4,5]),([6],[6]),([3,7],[3,7]),([8],[8])])
def zv_.B6:List Nat:=[0,0,3,7,0,0,48,112,255,511]
theorem zv_.tab6:rtab .any (opsOf Tryz.f91 6)=zv_.T6:=by kernel_rfl
theorem zv_.bits6:waitsOk zv_.T6.2 zv_.B6=true:=by kernel_rfl
abbrev ba73_0:Array Bool:=#[f_,f_,f_,f_,f_,f_,f_,f_,f_,f_]
abbrev ba73_1:Array Bool:=#[t_,f_,f_,f_,f_,f_,f_,f_,f_,f_]
abbrev ba73_2:Array Bool:=#[t_,t_,f_,f_,f_,f_,f_,f_,f_,f_]
abbrev ba73_3:Array Bool:=#[t_,t_,t_,f_,f_,f_,f_,f_,f_,f_]
abbrev ba73_4:Array Bool:=#[t_,t_,t_,f_,t_,f_,f_,f_,f_,f_]
abbrev ba73_5:Array Bool:=#[t_,t_,t_,f_,t_,t_,f_,f_,f_,f_]
abbrev ba73_6:Array Bool:=#[t_,t_,t_,f_,t_,t_,t_,f_,f_,f_]
abbrev ba73_7:Array Bool:=#[t_,t_,t_,t_,t_,t_,t_,f_,f_,f_]
abbrev ba73_8:Array Bool:=#[t_,t_,t_,t_,t_,t_,t_,t_,f_,f_]
abbrev ba73_9:Array Bool:=#[t_,t_,t_,t_,t_,t_,t_,t_,t_,f_]
abbrev ba73_10:Array Bool:=#[t_,t_,t_,t_,t_,t_,t_,t_,t_,t_]
set_option maxHeartbeats 8000000 in
set_option maxRecDepth 100000 in
theorem zv_.calls (k:Nat) (A0:Option Addr) (c0:Nat) (l0:List (S42)) (A1:Option Addr) (c1:Nat) (l1:List (S42)) (r:Bool) (w:World) (hr0:Kd.C k42 w A0 l0.length l0) (hc0:l0.length≤c0) (hr1:Kd.C k42 w A1 l1.length l1) (hc1:l1.length≤c1) (h:zv_.f k l0 l1=some r) (hT_:r=true:=by first|rfl|assumption):
  Calls Tryz.prog 91 #[.slice A0 l0.length c0,.slice A1 l1.length c1] w fun e w'=>e=.returned (.bool r)∧Below w.heap.size w w':=by
 subst hT_;have hu42:=Tryz.underlying42;have HR0:=a_ hr0;have HC0:=a_ hc0;clear hr0 hc0;have HR1:=a_ hr1;have HC1:=a_ hc1;clear hr1 hc1;have HB:=a_ (Below.refl w.heap.size w);have H:=h;unfold zv_.f at H
 clear h;by_cases c3:(l0.length:Int)=(l1.length:Int)
 ·rw [if_pos c3] at H;obtain ⟨c3b0,c3b1⟩:=bq_ c3;have c3b2:(l0.length==l1.length)=true:=by first|simpa using c3|(simp at c3 ⊢;omega)
  clear c3;have H':=a_ H;clear H;go_enter Tryz.func91,Tryz.ntmps91;go_wp2;go_loopg [5] k (fun kq v5 w'=>∃(x5_1:Int),v5=.int .i64 x5_1∧z0_ (zv_.l0 kq l0 l1 x5_1=some true)∧z0_ (kq≤k)∧z0_ (Below w.heap.size w w'))
  case atStart=>exact ⟨(0),mq_,H',⟨Nat.le_refl _⟩,⟨mb_ HB⟩⟩
  clear H';(try clear c3b0);(try clear c3b1);(try clear c3b2);obtain ⟨x5_1,rfl,HA,HK1,HB⟩:=hrel;obtain _|k1:=gk
  ·exact absurd HA.out (by simp [zv_.l0])
  have H:=HA.out;clear HA;simp only [zv_.l0] at H;by_cases c4:x5_1<(l0.length:Int)
  ·rw [if_pos c4] at H;have c4b0:=ct_ c4;clear c4;by_cases c5:0≤x5_1
   case neg=>
    rw [if_neg c5] at H;cases H
   rw [if_pos c5] at H;have c5b0:=ct_ c5;clear c5;by_cases c6:x5_1<(l1.length:Int)
   case neg=>
    rw [if_neg c6] at H;cases H
   rw [if_pos c6] at H;have c6b0:=ct_ c6;clear c6;obtain ⟨t267,A7,H⟩:=ob_ H;by_cases c8:t267=true
   ·subst c8;rw [if_pos rfl] at H;have H':=a_ H;clear H;try go_wp2
    replace HB:=a_ (x2_ HB.out);have p265:0≤(x5_1:Int):=md_
    have q265:x5_1<(l0.length:Int):=md_
    obtain ⟨ad265,A265_2,c265_2,e265,hx265_0,hx265_1,hx265_2,hl265_2,hi265_2⟩:=at_T42 HR0.out x5_1 p265 q265;have hw265_2:=hx265_2;have hw265_1:=hx265_1;have hw265_0:=hx265_0;cases e265;replace hx265_0:=mx_ HB hx265_0;replace hx265_1:=mx_ HB hx265_1;replace hx265_2:=mx_ HB hx265_2;have HR265_2:=a_ hi265_2;have HC265_2:=a_ hl265_2;clear hi265_2 hl265_2;replace p265:=eq_true p265;replace q265:=eq_true q265;have p266:0≤(x5_1:Int):=md_
    have q266:x5_1<(l1.length:Int):=md_
    obtain ⟨ad266,A266_2,c266_2,e266,hx266_0,hx266_1,hx266_2,hl266_2,hi266_2⟩:=at_T42 HR1.out x5_1 p266 q266;have hw266_2:=hx266_2;have hw266_1:=hx266_1;have hw266_0:=hx266_0;cases e266;replace hx266_0:=mx_ HB hx266_0;replace hx266_1:=mx_ HB hx266_1;replace hx266_2:=mx_ HB hx266_2;have HR266_2:=a_ hi266_2;have HC266_2:=a_ hl266_2;clear hi266_2 hl266_2;replace p266:=eq_true p266;replace q266:=eq_true q266;refine start_ (n:=10) (S:=fun w'=>w'.cell? (ad265.add ((x5_1).toNat*3))=some (.bool ((zq_ l0 x5_1).f0))∧w'.cell? ⟨(ad265.add ((x5_1).toNat*3)).block,(ad265.add ((x5_1).toNat*3)).off+1,none⟩=some (.string ((zq_ l0 x5_1).f1))∧w'.cell? ⟨(ad265.add ((x5_1).toNat*3)).block,(ad265.add ((x5_1).toNat*3)).off+2,none⟩=some (.slice A265_2 ((zq_ l0 x5_1).f2).length c265_2)∧w'.cell? (ad266.add ((x5_1).toNat*3))=some (.bool ((zq_ l1 x5_1).f0))∧w'.cell? ⟨(ad266.add ((x5_1).toNat*3)).block,(ad266.add ((x5_1).toNat*3)).off+1,none⟩=some (.string ((zq_ l1 x5_1).f1))∧w'.cell? ⟨(ad266.add ((x5_1).toNat*3)).block,(ad266.add ((x5_1).toNat*3)).off+2,none⟩=some (.slice A266_2 ((zq_ l1 x5_1).f2).length c266_2)) (ds:=[]) ba73_0 (by kernel_rfl) rfl rfl ⟨(mx_ HB hw265_0),(mx_ HB hw265_1),(mx_ HB hw265_2),(mx_ HB hw266_0),(mx_ HB hw266_1),(mx_ HB hw266_2)⟩ (fun hHeld=>?_);refine with_tabW zv_.tab6 zv_.bits6 (fun HT_ HW_=>?_);generalize wr.drew=w9 at HB HR265_2 HR266_2 hx265_0 hx265_1 hx265_2 hx266_0 hx266_1 hx266_2 hHeld ⊢;refine pu_ 0 17 ba73_1 (ze_ HT_.out (by kernel_rfl)) ?_;refine pu_ 1 18 ba73_2 (ze_ HT_.out (by kernel_rfl)) ?_;refine pu_ 2 19 ba73_3 (ze_ HT_.out (by kernel_rfl)) ?_;refine pu_ 4 21 ba73_4 (ze_ HT_.out (by kernel_rfl)) ?_;refine pu_ 5 22 ba73_5 (ze_ HT_.out (by kernel_rfl)) ?_;refine pu_ 6 23 ba73_6 (ze_ HT_.out (by kernel_rfl)) ?_;refine tk_ 3 20 ba73_7 (w6_ HT_.out HW_.out (by kernel_rfl)) hHeld ?_;refine tk_ 7 24 ba73_8 (w6_ HT_.out HW_.out (by kernel_rfl)) hHeld ?_;refine one_ (i:=8) (N:=some 25) ba73_9 rfl rfl (one_of HT_.out (by kernel_rfl)) (by decide) (fun K hK=>?_);refine goes_ Tryz.func140 (by kernel_rfl) rfl #[.agg #[.bool ((zq_ l0 x5_1).f0),.string ((zq_ l0 x5_1).f1),.slice A265_2 ((zq_ l0 x5_1).f2).length c265_2],.agg #[.bool ((zq_ l1 x5_1).f0),.string ((zq_ l1 x5_1).f1),.slice A266_2 ((zq_ l1 x5_1).f2).length c266_2]] (by rfl) rfl rfl mw_ ?_
    with_reducible refine (w8_.calls k1 ((zq_ l0 x5_1).f0) ((zq_ l0 x5_1).f1) _ _ ((zq_ l0 x5_1).f2) ((zq_ l1 x5_1).f0) ((zq_ l1 x5_1).f1) _ _ ((zq_ l1 x5_1).f2) true _ ?side1 ?side2 ?side3 ?side4 A7.out).mono ?_
    (case side1=>exact mt_ HR265_2 HB)
    (case side2=>exact HC265_2.out)
    (case side3=>exact mt_ HR266_2 HB)
    (case side4=>exact HC266_2.out)
    rintro e w10 ⟨rfl,hb⟩;refine ⟨_,rfl,?_⟩;replace HB:=ms_ HB hb;(try clear hb);(try clear hb2);(try clear hk);(try clear hi);refine hK.out _ _ ⟨(mx_ HB hw265_0),(mx_ HB hw265_1),(mx_ HB hw265_2),(mx_ HB hw266_0),(mx_ HB hw266_1),(mx_ HB hw266_2)⟩ (fun hHeld=>?_);clear hK K;refine nm_ 25 ?_;refine pu_ 9 26 ba73_10 (ze_ HT_.out (by kernel_rfl)) ?_;refine done_ (done_of HT_.out (by kernel_rfl)) ?_;try go_wp2
    go_roundg k1
    case measure=>
     have:=HK1.out
     omega
    case rel=>exact ⟨(wrap64 (x5_1+1)),mq_,H',⟨by have:=HK1.out;omega⟩,⟨mb_ HB⟩⟩
   ·replace c8:=Bool.eq_false_iff.mpr c8;subst c8;rw [if_neg (show ¬(false=true) by decide)] at H;exact absurd (Option.some.inj H) (by decide)
  ·rw [if_neg c4] at H;have c4b0:=cf_ c4;clear c4;clear H;go_wp2;go_ret;exact ⟨me_,mb_ HB⟩
 ·rw [if_neg c3] at H;obtain ⟨c3b0,c3b1⟩:=bn_ c3;have c3b2:(l0.length==l1.length)=false:=by first|simpa using c3|(simp at c3 ⊢;omega)
  exact absurd (Option.some.inj H) (by decide)
def laws_eqExpr.f (a0_0:Int) (a0_1:Int) (a0_2:ByteArray) (a0_3:Int) (a0_4:Int) (a0_5:ByteArray) (a0_6:Int) (a0_7:Int) (a1_0:Int) (a1_1:Int) (a1_2:ByteArray) (a1_3:Int) (a1_4:Int) (a1_5:ByteArray) (a1_6:Int) (a1_7:Int):Option (Bool):=if a0_0=a1_0 then (if a0_1=a1_1 then (if a0_2.toList=a1_2.toList then ((laws_eqValue.f a0_3 a0_4 a0_5 a1_3 a1_4 a1_5).bind fun t270=>(if t270=true then (if a0_6=a1_6 then (if a0_7=a1_7 then (some true) else (some false)) else (some false)) else (some false))) else (some false)) else (some false)) else (some false)
set_option maxHeartbeats 8000000 in
set_option maxRecDepth 100000 in
theorem laws_eqExpr.calls (a0_0:Int) (a0_1:Int) (a0_2:ByteArray) (a0_3:Int) (a0_4:Int) (a0_5:ByteArray) (a0_6:Int) (a0_7:Int) (a1_0:Int) (a1_1:Int) (a1_2:ByteArray) (a1_3:Int) (a1_4:Int) (a1_5:ByteArray) (a1_6:Int) (a1_7:Int) (r:Bool) (w:World) (h:laws_eqExpr.f a0_0 a0_1 a0_2 a0_3 a0_4 a0_5 a0_6 a0_7 a1_0 a1_1 a1_2 a1_3 a1_4 a1_5 a1_6 a1_7=some r) (hT_:r=true:=by first|rfl|assumption):
  Calls Tryz.prog 141 #[.agg #[.int .i64 a0_0,.int .u8 a0_1,.string a0_2,.int .i64 a0_3,.int .i64 a0_4,.string a0_5,.int .i64 a0_6,.int .i64 a0_7],.agg #[.int .i64 a1_0,.int .u8 a1_1,.string a1_2,.int .i64 a1_3,.int .i64 a1_4,.string a1_5,.int .i64 a1_6,.int .i64 a1_7]] w fun e w'=>e=.returned (.bool r)∧Below w.heap.size w w':=by
 subst hT_;have hu161:=Tryz.underlying161;have hu80:=Tryz.underlying80;have HB:=a_ (Below.refl w.heap.size w);have H:=h;unfold laws_eqExpr.f at H
 clear h;by_cases c3:a0_0=a1_0
 case neg=>
  rw [if_neg c3] at H;obtain ⟨c3b0,c3b1⟩:=bn_ c3;exact absurd (Option.some.inj H) (by decide)
 rw [if_pos c3] at H;obtain ⟨c3b0,c3b1⟩:=bq_ c3;clear c3;by_cases c4:a0_1=a1_1
 case neg=>
  rw [if_neg c4] at H;obtain ⟨c4b0,c4b1⟩:=bn_ c4;exact absurd (Option.some.inj H) (by decide)
 rw [if_pos c4] at H;obtain ⟨c4b0,c4b1⟩:=bq_ c4;clear c4;by_cases c5:a0_2.toList=a1_2.toList
 case neg=>
  rw [if_neg c5] at H;obtain ⟨c5b0,c5b1⟩:=bn_ c5;exact absurd (Option.some.inj H) (by decide)
 rw [if_pos c5] at H;obtain ⟨c5b0,c5b1⟩:=bq_ c5;clear c5;obtain ⟨t270,A6,H⟩:=ob_ H;by_cases c7:t270=true
 ·subst c7;rw [if_pos rfl] at H;by_cases c8:a0_6=a1_6
  case neg=>
   rw [if_neg c8] at H;obtain ⟨c8b0,c8b1⟩:=bn_ c8;exact absurd (Option.some.inj H) (by decide)
  rw [if_pos c8] at H;obtain ⟨c8b0,c8b1⟩:=bq_ c8;clear c8;by_cases c9:a0_7=a1_7
  case neg=>
   rw [if_neg c9] at H;obtain ⟨c9b0,c9b1⟩:=bn_ c9;exact absurd (Option.some.inj H) (by decide)
  rw [if_pos c9] at H;obtain ⟨c9b0,c9b1⟩:=bq_ c9;clear c9;clear H;go_enter Tryz.func141,Tryz.ntmps141;go_wp2_with (first|((with_reducible refine zl_ (N:=2) rfl ?_);refine bh_ 2 #[.int .i64 a0_0,.int .u8 a0_1,.string a0_2,.int .i64 a0_3,.int .i64 a0_4,.string a0_5,.int .i64 a0_6,.int .i64 a0_7] 161 HB ?_;intro gb268 hg wx BK268 GE268 hb;replace HB:=ms_ HB hb;clear hb hg)|((with_reducible refine zl_ (N:=3) rfl ?_);refine bh_ 3 #[.int .i64 a1_0,.int .u8 a1_1,.string a1_2,.int .i64 a1_3,.int .i64 a1_4,.string a1_5,.int .i64 a1_6,.int .i64 a1_7] 161 HB ?_;intro gb269 hg wx BK269 GE269 hb;obtain ⟨NB268_269,NB269_268⟩:=mn_ BK268 hg;replace BK268:=mk_ BK268 hb;replace HB:=ms_ HB hb;clear hb hg;have nNB268_269:=NB268_269.out;have nNB269_268:=NB269_268.out;replace hz268:=cz8 BK268;replace hz269:=cz8 BK269)|((with_reducible refine zg_ (f:=173) rfl ?_);refine xf_ (some 24) rfl rfl Tryz.func173 (by kernel_rfl) rfl #[.agg #[.int .i64 a0_3,.int .i64 a0_4,.string a0_5],.agg #[.int .i64 a1_3,.int .i64 a1_4,.string a1_5]] rfl mw_ ?_;(with_reducible refine (laws_eqValue.calls a0_3 a0_4 a0_5 a1_3 a1_4 a1_5 true _ A6.out).mono ?_);rintro e wx ⟨rfl,hb⟩;refine ⟨_,rfl,?_⟩;replace BK268:=mk_ BK268 hb;replace BK269:=mk_ BK269 hb;replace HB:=ms_ HB hb;(try clear hb);replace hz268:=cz8 BK268;replace hz269:=cz8 BK269));go_ret;exact ⟨me_,mb_ HB⟩
 ·replace c7:=Bool.eq_false_iff.mpr c7;subst c7;rw [if_neg (show ¬(false=true) by decide)] at H;exact absurd (Option.some.inj H) (by decide)
def yd_.l0:Nat→List (S161)→List (S161)→Int→Option (Bool)
 | 0,_,_,_=>none
 | k+1,x0,x1,x5=>if x5<(x0.length:Int) then (if 0≤x5 then (if x5<(x1.length:Int) then ((laws_eqExpr.f ((z2_ x0 x5).f0) ((z2_ x0 x5).f1) ((z2_ x0 x5).f2) ((z2_ x0 x5).f3.f0) ((z2_ x0 x5).f3.f1) ((z2_ x0 x5).f3.f2) ((z2_ x0 x5).f4) ((z2_ x0 x5).f5) ((z2_ x1 x5).f0) ((z2_ x1 x5).f1) ((z2_ x1 x5).f2) ((z2_ x1 x5).f3.f0) ((z2_ x1 x5).f3.f1) ((z2_ x1 x5).f3.f2) ((z2_ x1 x5).f4) ((z2_ x1 x5).f5)).bind fun t273=>(if t273=true then (yd_.l0 k x0 x1 (wrap64 (x5+1))) else (some false))) else (none)) else (none)) else (some true)
def yd_.f (k:Nat) (l0:List (S161)) (l1:List (S161)):Option (Bool):=if (l0.length:Int)=(l1.length:Int) then (yd_.l0 k l0 l1 0) else (some false)
theorem yd_.y6_:∀k,(∀y0 y1 y2,LeO (yd_.l0 k y0 y1 y2) (yd_.l0 (k+1) y0 y1 y2))
 | 0=>fun _ _ _ r h=>by simp [yd_.l0] at h
 | k+1=>by
  have ih0:=yd_.y6_ k
  ·intro y0 y1 y2;unfold yd_.l0
   repeat' with_reducible first|apply ih0|apply LeO.refl|apply LeO.none|refine LeO.ite ?_ ?_|refine LeO.bind ?_ (fun _=>?_)
theorem yd_.mono:∀a0 a1 k,LeO (yd_.f k a0 a1) (yd_.f (k+1) a0 a1):=by
 intro a0 a1 k;have ih0:=yd_.y6_ k;unfold yd_.f
 repeat' with_reducible first|apply ih0|apply LeO.refl|apply LeO.none|refine LeO.ite ?_ ?_|refine LeO.bind ?_ (fun _=>?_)
def yd_.T6:Bool×List (List Nat×List Nat):=(true,[([],[]),([],[]),([0,1],[0,1]),([2],[2]),([],[]),([],[]),([4,5],[4,5]),([6],[6]),([3,7],[3,7]),([8],[8])])
def yd_.B6:List Nat:=[0,0,3,7,0,0,48,112,255,511]
theorem yd_.tab6:rtab .any (opsOf Tryz.f92 6)=yd_.T6:=by kernel_rfl
theorem yd_.bits6:waitsOk yd_.T6.2 yd_.B6=true:=by kernel_rfl
set_option maxHeartbeats 8000000 in
set_option maxRecDepth 100000 in
theorem yd_.calls (k:Nat) (A0:Option Addr) (c0:Nat) (l0:List (S161)) (A1:Option Addr) (c1:Nat) (l1:List (S161)) (r:Bool) (w:World) (hr0:Kd.C k161 w A0 l0.length l0) (hc0:l0.length≤c0) (hr1:Kd.C k161 w A1 l1.length l1) (hc1:l1.length≤c1) (h:yd_.f k l0 l1=some r) (hT_:r=true:=by first|rfl|assumption):
  Calls Tryz.prog 92 #[.slice A0 l0.length c0,.slice A1 l1.length c1] w fun e w'=>e=.returned (.bool r)∧Below w.heap.size w w':=by
 subst hT_;have hu161:=Tryz.underlying161;have HR0:=a_ hr0;have HC0:=a_ hc0;clear hr0 hc0;have HR1:=a_ hr1;have HC1:=a_ hc1;clear hr1 hc1;have HB:=a_ (Below.refl w.heap.size w);have H:(if (l0.length:Int)=(l1.length:Int) then (yd_.l0 k l0 l1 0) else (some false))=some true:=h
 clear h;by_cases c3:(l0.length:Int)=(l1.length:Int)
 ·rw [if_pos c3] at H;obtain ⟨c3b0,c3b1⟩:=bq_ c3;have c3b2:(l0.length==l1.length)=true:=by first|simpa using c3|(simp at c3 ⊢;omega)
  clear c3;have H':=a_ H;clear H;go_enter Tryz.func92,Tryz.ntmps92;go_wp2;go_loopg [5] k (fun kq v5 w'=>∃(x5_1:Int),v5=.int .i64 x5_1∧z0_ (yd_.l0 kq l0 l1 x5_1=some true)∧z0_ (kq≤k)∧z0_ (Below w.heap.size w w'))
  case atStart=>exact ⟨(0),mq_,H',⟨Nat.le_refl _⟩,⟨mb_ HB⟩⟩
  clear H';(try clear c3b0);(try clear c3b1);(try clear c3b2);obtain ⟨x5_1,rfl,HA,HK1,HB⟩:=hrel;obtain _|k1:=gk
  ·exact absurd HA.out (by simp [yd_.l0])
  have H:=HA.out;clear HA;simp only [yd_.l0] at H;by_cases c4:x5_1<(l0.length:Int)
  ·rw [if_pos c4] at H;have c4b0:=ct_ c4;clear c4;by_cases c5:0≤x5_1
   case neg=>
    rw [if_neg c5] at H;cases H
   rw [if_pos c5] at H;have c5b0:=ct_ c5;clear c5;by_cases c6:x5_1<(l1.length:Int)
   case neg=>
    rw [if_neg c6] at H;cases H
   rw [if_pos c6] at H;have c6b0:=ct_ c6;clear c6;obtain ⟨t273,A7,H⟩:=ob_ H;by_cases c8:t273=true
   ·subst c8;rw [if_pos rfl] at H;have H':=a_ H;clear H;try go_wp2
    replace HB:=a_ (x2_ HB.out);have p271:0≤(x5_1:Int):=md_
    have q271:x5_1<(l0.length:Int):=md_
    obtain ⟨ad271,e271,hx271_0,hx271_1,hx271_2,hx271_3,hx271_4,hx271_5,hx271_6,hx271_7⟩:=at_T161 HR0.out x5_1 p271 q271;have hw271_7:=hx271_7;have hw271_6:=hx271_6;have hw271_5:=hx271_5;have hw271_4:=hx271_4;have hw271_3:=hx271_3;have hw271_2:=hx271_2;have hw271_1:=hx271_1;have hw271_0:=hx271_0;cases e271;replace hx271_0:=mx_ HB hx271_0;replace hx271_1:=mx_ HB hx271_1;replace hx271_2:=mx_ HB hx271_2;replace hx271_3:=mx_ HB hx271_3;replace hx271_4:=mx_ HB hx271_4;replace hx271_5:=mx_ HB hx271_5;replace hx271_6:=mx_ HB hx271_6;replace hx271_7:=mx_ HB hx271_7;replace p271:=eq_true p271;replace q271:=eq_true q271;have p272:0≤(x5_1:Int):=md_
    have q272:x5_1<(l1.length:Int):=md_
    obtain ⟨ad272,e272,hx272_0,hx272_1,hx272_2,hx272_3,hx272_4,hx272_5,hx272_6,hx272_7⟩:=at_T161 HR1.out x5_1 p272 q272;have hw272_7:=hx272_7;have hw272_6:=hx272_6;have hw272_5:=hx272_5;have hw272_4:=hx272_4;have hw272_3:=hx272_3;have hw272_2:=hx272_2;have hw272_1:=hx272_1;have hw272_0:=hx272_0;cases e272;replace hx272_0:=mx_ HB hx272_0;replace hx272_1:=mx_ HB hx272_1;replace hx272_2:=mx_ HB hx272_2;replace hx272_3:=mx_ HB hx272_3;replace hx272_4:=mx_ HB hx272_4;replace hx272_5:=mx_ HB hx272_5;replace hx272_6:=mx_ HB hx272_6;replace hx272_7:=mx_ HB hx272_7;replace p272:=eq_true p272;replace q272:=eq_true q272;refine start_ (n:=10) (S:=fun w'=>w'.cell? (ad271.add ((x5_1).toNat*8))=some (.int .i64 ((z2_ l0 x5_1).f0))∧w'.cell? ⟨(ad271.add ((x5_1).toNat*8)).block,(ad271.add ((x5_1).toNat*8)).off+1,none⟩=some (.int .u8 ((z2_ l0 x5_1).f1))∧w'.cell? ⟨(ad271.add ((x5_1).toNat*8)).block,(ad271.add ((x5_1).toNat*8)).off+2,none⟩=some (.string ((z2_ l0 x5_1).f2))∧w'.cell? ⟨(ad271.add ((x5_1).toNat*8)).block,(ad271.add ((x5_1).toNat*8)).off+3,none⟩=some (.int .i64 ((z2_ l0 x5_1).f3.f0))∧w'.cell? ⟨(ad271.add ((x5_1).toNat*8)).block,(ad271.add ((x5_1).toNat*8)).off+4,none⟩=some (.int .i64 ((z2_ l0 x5_1).f3.f1))∧w'.cell? ⟨(ad271.add ((x5_1).toNat*8)).block,(ad271.add ((x5_1).toNat*8)).off+5,none⟩=some (.string ((z2_ l0 x5_1).f3.f2))∧w'.cell? ⟨(ad271.add ((x5_1).toNat*8)).block,(ad271.add ((x5_1).toNat*8)).off+6,none⟩=some (.int .i64 ((z2_ l0 x5_1).f4))∧w'.cell? ⟨(ad271.add ((x5_1).toNat*8)).block,(ad271.add ((x5_1).toNat*8)).off+7,none⟩=some (.int .i64 ((z2_ l0 x5_1).f5))∧w'.cell? (ad272.add ((x5_1).toNat*8))=some (.int .i64 ((z2_ l1 x5_1).f0))∧w'.cell? ⟨(ad272.add ((x5_1).toNat*8)).block,(ad272.add ((x5_1).toNat*8)).off+1,none⟩=some (.int .u8 ((z2_ l1 x5_1).f1))∧w'.cell? ⟨(ad272.add ((x5_1).toNat*8)).block,(ad272.add ((x5_1).toNat*8)).off+2,none⟩=some (.string ((z2_ l1 x5_1).f2))∧w'.cell? ⟨(ad272.add ((x5_1).toNat*8)).block,(ad272.add ((x5_1).toNat*8)).off+3,none⟩=some (.int .i64 ((z2_ l1 x5_1).f3.f0))∧w'.cell? ⟨(ad272.add ((x5_1).toNat*8)).block,(ad272.add ((x5_1).toNat*8)).off+4,none⟩=some (.int .i64 ((z2_ l1 x5_1).f3.f1))∧w'.cell? ⟨(ad272.add ((x5_1).toNat*8)).block,(ad272.add ((x5_1).toNat*8)).off+5,none⟩=some (.string ((z2_ l1 x5_1).f3.f2))∧w'.cell? ⟨(ad272.add ((x5_1).toNat*8)).block,(ad272.add ((x5_1).toNat*8)).off+6,none⟩=some (.int .i64 ((z2_ l1 x5_1).f4))∧w'.cell? ⟨(ad272.add ((x5_1).toNat*8)).block,(ad272.add ((x5_1).toNat*8)).off+7,none⟩=some (.int .i64 ((z2_ l1 x5_1).f5))) (ds:=[]) ba73_0 (by kernel_rfl) rfl rfl ⟨(mx_ HB hw271_0),(mx_ HB hw271_1),(mx_ HB hw271_2),(mx_ HB hw271_3),(mx_ HB hw271_4),(mx_ HB hw271_5),(mx_ HB hw271_6),(mx_ HB hw271_7),(mx_ HB hw272_0),(mx_ HB hw272_1),(mx_ HB hw272_2),(mx_ HB hw272_3),(mx_ HB hw272_4),(mx_ HB hw272_5),(mx_ HB hw272_6),(mx_ HB hw272_7)⟩ (fun hHeld=>?_);refine with_tabW yd_.tab6 yd_.bits6 (fun HT_ HW_=>?_)
    generalize wr.drew=w9 at HB hx271_0 hx271_1 hx271_2 hx271_3 hx271_4 hx271_5 hx271_6 hx271_7 hx272_0 hx272_1 hx272_2 hx272_3 hx272_4 hx272_5 hx272_6 hx272_7 hHeld ⊢;refine pu_ 0 17 ba73_1 (ze_ HT_.out (by kernel_rfl)) ?_;refine pu_ 1 18 ba73_2 (ze_ HT_.out (by kernel_rfl)) ?_;refine pu_ 2 19 ba73_3 (ze_ HT_.out (by kernel_rfl)) ?_;refine pu_ 4 21 ba73_4 (ze_ HT_.out (by kernel_rfl)) ?_;refine pu_ 5 22 ba73_5 (ze_ HT_.out (by kernel_rfl)) ?_;refine pu_ 6 23 ba73_6 (ze_ HT_.out (by kernel_rfl)) ?_;refine tk_ 3 20 ba73_7 (w6_ HT_.out HW_.out (by kernel_rfl)) hHeld ?_;refine tk_ 7 24 ba73_8 (w6_ HT_.out HW_.out (by kernel_rfl)) hHeld ?_;refine one_ (i:=8) (N:=some 25) ba73_9 rfl rfl (one_of HT_.out (by kernel_rfl)) (by decide) (fun K hK=>?_);refine goes_ Tryz.func141 (by kernel_rfl) rfl #[.agg #[.int .i64 ((z2_ l0 x5_1).f0),.int .u8 ((z2_ l0 x5_1).f1),.string ((z2_ l0 x5_1).f2),.int .i64 ((z2_ l0 x5_1).f3.f0),.int .i64 ((z2_ l0 x5_1).f3.f1),.string ((z2_ l0 x5_1).f3.f2),.int .i64 ((z2_ l0 x5_1).f4),.int .i64 ((z2_ l0 x5_1).f5)],.agg #[.int .i64 ((z2_ l1 x5_1).f0),.int .u8 ((z2_ l1 x5_1).f1),.string ((z2_ l1 x5_1).f2),.int .i64 ((z2_ l1 x5_1).f3.f0),.int .i64 ((z2_ l1 x5_1).f3.f1),.string ((z2_ l1 x5_1).f3.f2),.int .i64 ((z2_ l1 x5_1).f4),.int .i64 ((z2_ l1 x5_1).f5)]] (by rfl) rfl rfl mw_ ?_;with_reducible refine (laws_eqExpr.calls ((z2_ l0 x5_1).f0) ((z2_ l0 x5_1).f1) ((z2_ l0 x5_1).f2) ((z2_ l0 x5_1).f3.f0) ((z2_ l0 x5_1).f3.f1) ((z2_ l0 x5_1).f3.f2) ((z2_ l0 x5_1).f4) ((z2_ l0 x5_1).f5) ((z2_ l1 x5_1).f0) ((z2_ l1 x5_1).f1) ((z2_ l1 x5_1).f2) ((z2_ l1 x5_1).f3.f0) ((z2_ l1 x5_1).f3.f1) ((z2_ l1 x5_1).f3.f2) ((z2_ l1 x5_1).f4) ((z2_ l1 x5_1).f5) true _ A7.out).mono ?_
    rintro e w10 ⟨rfl,hb⟩;refine ⟨_,rfl,?_⟩;replace HB:=ms_ HB hb;(try clear hb);(try clear hb2);(try clear hk);(try clear hi);refine hK.out _ _ ⟨(mx_ HB hw271_0),(mx_ HB hw271_1),(mx_ HB hw271_2),(mx_ HB hw271_3),(mx_ HB hw271_4),(mx_ HB hw271_5),(mx_ HB hw271_6),(mx_ HB hw271_7),(mx_ HB hw272_0),(mx_ HB hw272_1),(mx_ HB hw272_2),(mx_ HB hw272_3),(mx_ HB hw272_4),(mx_ HB hw272_5),(mx_ HB hw272_6),(mx_ HB hw272_7)⟩ (fun hHeld=>?_);clear hK K;refine nm_ 25 ?_;refine pu_ 9 26 ba73_10 (ze_ HT_.out (by kernel_rfl)) ?_;refine done_ (done_of HT_.out (by kernel_rfl)) ?_;try go_wp2
    go_roundg k1
    case measure=>
     have:=HK1.out
     omega
    case rel=>exact ⟨(wrap64 (x5_1+1)),mq_,H',⟨by have:=HK1.out;omega⟩,⟨mb_ HB⟩⟩
   ·replace c8:=Bool.eq_false_iff.mpr c8;subst c8;rw [if_neg (show ¬(false=true) by decide)] at H;exact absurd (Option.some.inj H) (by decide)
  ·rw [if_neg c4] at H;have c4b0:=cf_ c4;clear c4;clear H;go_wp2;go_ret;exact ⟨me_,mb_ HB⟩
 ·rw [if_neg c3] at H;obtain ⟨c3b0,c3b1⟩:=bn_ c3;have c3b2:(l0.length==l1.length)=false:=by first|simpa using c3|(simp at c3 ⊢;omega)
  exact absurd (Option.some.inj H) (by decide)
def yi_.l0:Nat→List Int→List Int→Int→Option (Bool)
 | 0,_,_,_=>none
 | k+1,x0,x1,x5=>if x5<(x0.length:Int) then (if 0≤x5 then (if x5<(x1.length:Int) then (if (rd x0 x5)=(rd x1 x5) then (yi_.l0 k x0 x1 (wrap64 (x5+1))) else (some false)) else (none)) else (none)) else (some true)
def yi_.f (k:Nat) (l0:List Int) (l1:List Int):Option (Bool):=if (l0.length:Int)=(l1.length:Int) then (yi_.l0 k l0 l1 0) else (some false)
theorem yi_.y6_:∀k,(∀y0 y1 y2,LeO (yi_.l0 k y0 y1 y2) (yi_.l0 (k+1) y0 y1 y2))
 | 0=>fun _ _ _ r h=>by simp [yi_.l0] at h
 | k+1=>by
  have ih0:=yi_.y6_ k
  ·intro y0 y1 y2;unfold yi_.l0
   repeat' with_reducible first|apply ih0|apply LeO.refl|apply LeO.none|refine LeO.ite ?_ ?_|refine LeO.bind ?_ (fun _=>?_)
theorem yi_.mono:∀a0 a1 k,LeO (yi_.f k a0 a1) (yi_.f (k+1) a0 a1):=by
 intro a0 a1 k;have ih0:=yi_.y6_ k;unfold yi_.f
 repeat' with_reducible first|apply ih0|apply LeO.refl|apply LeO.none|refine LeO.ite ?_ ?_|refine LeO.bind ?_ (fun _=>?_)
set_option maxHeartbeats 8000000 in
set_option maxRecDepth 100000 in
theorem yi_.calls (k:Nat) (A0:Option Addr) (c0:Nat) (l0:List Int) (A1:Option Addr) (c1:Nat) (l1:List Int) (r:Bool) (w:World) (hr0:Kd.C (Kd.int .i64) w A0 l0.length l0) (hc0:l0.length≤c0) (hr1:Kd.C (Kd.int .i64) w A1 l1.length l1) (hc1:l1.length≤c1) (h:yi_.f k l0 l1=some r) (hT_:r=true:=by first|rfl|assumption):
  Calls Tryz.prog 97 #[.slice A0 l0.length c0,.slice A1 l1.length c1] w fun e w'=>e=.returned (.bool r)∧x4_ w w':=by
 subst hT_;have HR0:=a_ hr0;have HC0:=a_ hc0;clear hr0 hc0;have HR1:=a_ hr1;have HC1:=a_ hc1;clear hr1 hc1;have H:(if (l0.length:Int)=(l1.length:Int) then (yi_.l0 k l0 l1 0) else (some false))=some true:=h
 clear h;by_cases c3:(l0.length:Int)=(l1.length:Int)
 ·rw [if_pos c3] at H;obtain ⟨c3b0,c3b1⟩:=bq_ c3;have c3b2:(l0.length==l1.length)=true:=by first|simpa using c3|(simp at c3 ⊢;omega)
  clear c3;have H':=a_ H;clear H;go_enter Tryz.func97,Tryz.ntmps97;go_wp2;repeat (go_quiet (fail);try go_wp2)
  go_loopg [5] k (fun kq v5 w'=>∃(x5_1:Int),v5=.int .i64 x5_1∧z0_ (yi_.l0 kq l0 l1 x5_1=some true)∧z0_ (kq≤k)∧x4_ w w')
  case atStart=>exact ⟨(0),mq_,H',⟨Nat.le_refl _⟩,by repeat (first|exact x4_.refl _|apply x4_.step)⟩
  clear H';(try clear c3b0);(try clear c3b1);(try clear c3b2);obtain ⟨x5_1,rfl,HA,HK1,⟨m1,rfl⟩⟩:=hrel;obtain _|k1:=gk
  ·exact absurd HA.out (by simp [yi_.l0])
  have H:=HA.out;clear HA;simp only [yi_.l0] at H;by_cases c4:x5_1<(l0.length:Int)
  ·rw [if_pos c4] at H;have c4b0:=ct_ c4;clear c4;by_cases c5:0≤x5_1
   case neg=>
    rw [if_neg c5] at H;cases H
   rw [if_pos c5] at H;have c5b0:=ct_ c5;clear c5;by_cases c6:x5_1<(l1.length:Int)
   case neg=>
    rw [if_neg c6] at H;cases H
   rw [if_pos c6] at H;have c6b0:=ct_ c6;clear c6;by_cases c7:(rd l0 x5_1)=(rd l1 x5_1)
   case neg=>
    rw [if_neg c7] at H;obtain ⟨c7b0,c7b1⟩:=bn_ c7;exact absurd (Option.some.inj H) (by decide)
   rw [if_pos c7] at H;obtain ⟨c7b0,c7b1⟩:=bq_ c7;clear c7;have H':=a_ H;clear H;have p274:0≤(x5_1:Int):=md_
   have q274:x5_1<(l0.length:Int):=md_
   obtain ⟨ad274,e274,hx274_0⟩:=Kd.at_int HR0.out x5_1 p274 q274;cases e274;replace p274:=eq_true p274;replace q274:=eq_true q274;have p275:0≤(x5_1:Int):=md_
   have q275:x5_1<(l1.length:Int):=md_
   obtain ⟨ad275,e275,hx275_0⟩:=Kd.at_int HR1.out x5_1 p275 q275;cases e275;replace p275:=eq_true p275;replace q275:=eq_true q275;go_wp2;repeat (go_quiet (fail);try go_wp2)
   go_roundg k1
   case measure=>
    have:=HK1.out
    omega
   case rel=>exact ⟨(wrap64 (x5_1+1)),mq_,H',⟨by have:=HK1.out;omega⟩,by repeat (first|exact x4_.refl _|apply x4_.step)⟩
  ·rw [if_neg c4] at H;have c4b0:=cf_ c4;clear c4;clear H;go_wp2;repeat (go_quiet (fail);try go_wp2)
   go_ret;exact ⟨by first|rfl|(simp;done)|(simp [*];done),by repeat (first|exact x4_.refl _|apply x4_.step)⟩
 ·rw [if_neg c3] at H;obtain ⟨c3b0,c3b1⟩:=bn_ c3;have c3b2:(l0.length==l1.length)=false:=by first|simpa using c3|(simp at c3 ⊢;omega)
  exact absurd (Option.some.inj H) (by decide)
def we_.f (k:Nat) (a0_0:Int) (a0_1:Int) (a0_2:ByteArray) (l0_3:List Int) (a1_0:Int) (a1_1:Int) (a1_2:ByteArray) (l1_3:List Int):Option (Bool):=if a0_0=a1_0 then (if a0_1=a1_1 then (if a0_2.toList=a1_2.toList then ((yi_.f k l0_3 l1_3).bind fun t278=>(if t278=true then (some true) else (some false))) else (some false)) else (some false)) else (some false)
theorem we_.mono:∀a0 a1 a2 a3 a4 a5 a6 a7 k,LeO (we_.f k a0 a1 a2 a3 a4 a5 a6 a7) (we_.f (k+1) a0 a1 a2 a3 a4 a5 a6 a7):=by
 intro a0 a1 a2 a3 a4 a5 a6 a7 k;unfold we_.f
 repeat' with_reducible first|apply yi_.mono|apply LeO.refl|apply LeO.none|refine LeO.ite ?_ ?_|refine LeO.bind ?_ (fun _=>?_)
set_option maxHeartbeats 8000000 in
set_option maxRecDepth 100000 in
theorem we_.calls (k:Nat) (a0_0:Int) (a0_1:Int) (a0_2:ByteArray) (A0_3:Option Addr) (c0_3:Nat) (l0_3:List Int) (a1_0:Int) (a1_1:Int) (a1_2:ByteArray) (A1_3:Option Addr) (c1_3:Nat) (l1_3:List Int) (r:Bool) (w:World) (hr0_3:Kd.C (Kd.int .i64) w A0_3 l0_3.length l0_3) (hc0_3:l0_3.length≤c0_3) (hr1_3:Kd.C (Kd.int .i64) w A1_3 l1_3.length l1_3) (hc1_3:l1_3.length≤c1_3) (h:we_.f k a0_0 a0_1 a0_2 l0_3 a1_0 a1_1 a1_2 l1_3=some r) (hT_:r=true:=by first|rfl|assumption):
  Calls Tryz.prog 142 #[.agg #[.int .i64 a0_0,.int .i64 a0_1,.string a0_2,.slice A0_3 l0_3.length c0_3],.agg #[.int .i64 a1_0,.int .i64 a1_1,.string a1_2,.slice A1_3 l1_3.length c1_3]] w fun e w'=>e=.returned (.bool r)∧Below w.heap.size w w':=by
 subst hT_;have hu98:=Tryz.underlying98;have HR0_3:=a_ hr0_3;have HC0_3:=a_ hc0_3;clear hr0_3 hc0_3;have HR1_3:=a_ hr1_3;have HC1_3:=a_ hc1_3;clear hr1_3 hc1_3;have HB:=a_ (Below.refl w.heap.size w);have H:=h;unfold we_.f at H
 clear h;by_cases c3:a0_0=a1_0
 case neg=>
  rw [if_neg c3] at H;obtain ⟨c3b0,c3b1⟩:=bn_ c3;exact absurd (Option.some.inj H) (by decide)
 rw [if_pos c3] at H;obtain ⟨c3b0,c3b1⟩:=bq_ c3;clear c3;by_cases c4:a0_1=a1_1
 case neg=>
  rw [if_neg c4] at H;obtain ⟨c4b0,c4b1⟩:=bn_ c4;exact absurd (Option.some.inj H) (by decide)
 rw [if_pos c4] at H;obtain ⟨c4b0,c4b1⟩:=bq_ c4;clear c4;by_cases c5:a0_2.toList=a1_2.toList
 case neg=>
  rw [if_neg c5] at H;obtain ⟨c5b0,c5b1⟩:=bn_ c5;exact absurd (Option.some.inj H) (by decide)
 rw [if_pos c5] at H;obtain ⟨c5b0,c5b1⟩:=bq_ c5;clear c5;obtain ⟨t278,A6,H⟩:=ob_ H;by_cases c7:t278=true
 ·subst c7;rw [if_pos rfl] at H;clear H;go_enter Tryz.func142,Tryz.ntmps142;go_wp2_with (first|((with_reducible refine zl_ (N:=2) rfl ?_);refine bh_ 2 #[.int .i64 a0_0,.int .i64 a0_1,.string a0_2,.slice A0_3 l0_3.length c0_3] 98 HB ?_;intro gb276 hg wx BK276 GE276 hb;replace HB:=ms_ HB hb;clear hb hg)|((with_reducible refine zl_ (N:=3) rfl ?_);refine bh_ 3 #[.int .i64 a1_0,.int .i64 a1_1,.string a1_2,.slice A1_3 l1_3.length c1_3] 98 HB ?_;intro gb277 hg wx BK277 GE277 hb;obtain ⟨NB276_277,NB277_276⟩:=mn_ BK276 hg;replace BK276:=mk_ BK276 hb;replace HB:=ms_ HB hb;clear hb hg;have nNB276_277:=NB276_277.out;have nNB277_276:=NB277_276.out;replace hz276:=cz4 BK276;replace hz277:=cz4 BK277)|((with_reducible refine zg_ (f:=97) rfl ?_);refine xf_ (some 24) rfl rfl Tryz.func97 (by kernel_rfl) rfl #[.slice A0_3 l0_3.length c0_3,.slice A1_3 l1_3.length c1_3] rfl mw_ ?_;(with_reducible refine (yi_.calls k _ _ l0_3 _ _ l1_3 true _ ?side1 HC0_3.out ?side3 HC1_3.out A6.out).mono ?_);(case side1=>exact mt_ HR0_3 HB);(case side3=>exact mt_ HR1_3 HB);rintro e w' ⟨rfl,⟨nd,rfl⟩⟩;refine ⟨_,rfl,?_⟩));go_ret;exact ⟨me_,mb_ HB⟩
 ·replace c7:=Bool.eq_false_iff.mpr c7;subst c7;rw [if_neg (show ¬(false=true) by decide)] at H;exact absurd (Option.some.inj H) (by decide)
def zz_.l0:Nat→List (S98)→List (S98)→Int→Option (Bool)
 | 0,_,_,_=>none
 | k+1,x0,x1,x5=>if x5<(x0.length:Int) then (if 0≤x5 then (if x5<(x1.length:Int) then ((we_.f k ((y3_ x0 x5).f0) ((y3_ x0 x5).f1) ((y3_ x0 x5).f2) ((y3_ x0 x5).f3) ((y3_ x1 x5).f0) ((y3_ x1 x5).f1) ((y3_ x1 x5).f2) ((y3_ x1 x5).f3)).bind fun t281=>(if t281=true then (zz_.l0 k x0 x1 (wrap64 (x5+1))) else (some false))) else (none)) else (none)) else (some true)
def zz_.f (k:Nat) (l0:List (S98)) (l1:List (S98)):Option (Bool):=if (l0.length:Int)=(l1.length:Int) then (zz_.l0 k l0 l1 0) else (some false)
theorem zz_.y6_:∀k,(∀y0 y1 y2,LeO (zz_.l0 k y0 y1 y2) (zz_.l0 (k+1) y0 y1 y2))
 | 0=>fun _ _ _ r h=>by simp [zz_.l0] at h
 | k+1=>by
  have ih0:=zz_.y6_ k
  ·intro y0 y1 y2;unfold zz_.l0
   repeat' with_reducible first|apply ih0|apply we_.mono|apply LeO.refl|apply LeO.none|refine LeO.ite ?_ ?_|refine LeO.bind ?_ (fun _=>?_)
theorem zz_.mono:∀a0 a1 k,LeO (zz_.f k a0 a1) (zz_.f (k+1) a0 a1):=by
 intro a0 a1 k;have ih0:=zz_.y6_ k;unfold zz_.f
 repeat' with_reducible first|apply ih0|apply we_.mono|apply LeO.refl|apply LeO.none|refine LeO.ite ?_ ?_|refine LeO.bind ?_ (fun _=>?_)
def zz_.T6:Bool×List (List Nat×List Nat):=(true,[([],[]),([],[]),([0,1],[0,1]),([2],[2]),([],[]),([],[]),([4,5],[4,5]),([6],[6]),([3,7],[3,7]),([8],[8])])
def zz_.B6:List Nat:=[0,0,3,7,0,0,48,112,255,511]
theorem zz_.tab6:rtab .any (opsOf Tryz.f93 6)=zz_.T6:=by kernel_rfl
theorem zz_.bits6:waitsOk zz_.T6.2 zz_.B6=true:=by kernel_rfl
abbrev becd_0:Array Bool:=#[f_,f_,f_,f_,f_,f_,f_,f_,f_,f_]
abbrev becd_1:Array Bool:=#[t_,f_,f_,f_,f_,f_,f_,f_,f_,f_]
abbrev becd_2:Array Bool:=#[t_,t_,f_,f_,f_,f_,f_,f_,f_,f_]
abbrev becd_3:Array Bool:=#[t_,t_,t_,f_,f_,f_,f_,f_,f_,f_]
abbrev becd_4:Array Bool:=#[t_,t_,t_,f_,t_,f_,f_,f_,f_,f_]
abbrev becd_5:Array Bool:=#[t_,t_,t_,f_,t_,t_,f_,f_,f_,f_]
abbrev becd_6:Array Bool:=#[t_,t_,t_,f_,t_,t_,t_,f_,f_,f_]
abbrev becd_7:Array Bool:=#[t_,t_,t_,t_,t_,t_,t_,f_,f_,f_]
abbrev becd_8:Array Bool:=#[t_,t_,t_,t_,t_,t_,t_,t_,f_,f_]
abbrev becd_9:Array Bool:=#[t_,t_,t_,t_,t_,t_,t_,t_,t_,f_]
abbrev becd_10:Array Bool:=#[t_,t_,t_,t_,t_,t_,t_,t_,t_,t_]
set_option maxHeartbeats 8000000 in
set_option maxRecDepth 100000 in
theorem zz_.calls (k:Nat) (A0:Option Addr) (c0:Nat) (l0:List (S98)) (A1:Option Addr) (c1:Nat) (l1:List (S98)) (r:Bool) (w:World) (hr0:Kd.C k98 w A0 l0.length l0) (hc0:l0.length≤c0) (hr1:Kd.C k98 w A1 l1.length l1) (hc1:l1.length≤c1) (h:zz_.f k l0 l1=some r) (hT_:r=true:=by first|rfl|assumption):
  Calls Tryz.prog 93 #[.slice A0 l0.length c0,.slice A1 l1.length c1] w fun e w'=>e=.returned (.bool r)∧Below w.heap.size w w':=by
 subst hT_;have hu98:=Tryz.underlying98;have HR0:=a_ hr0;have HC0:=a_ hc0;clear hr0 hc0;have HR1:=a_ hr1;have HC1:=a_ hc1;clear hr1 hc1;have HB:=a_ (Below.refl w.heap.size w);have H:=h;unfold zz_.f at H
 clear h;by_cases c3:(l0.length:Int)=(l1.length:Int)
 ·rw [if_pos c3] at H;obtain ⟨c3b0,c3b1⟩:=bq_ c3;have c3b2:(l0.length==l1.length)=true:=by first|simpa using c3|(simp at c3 ⊢;omega)
  clear c3;have H':=a_ H;clear H;go_enter Tryz.func93,Tryz.ntmps93;go_wp2;go_loopg [5] k (fun kq v5 w'=>∃(x5_1:Int),v5=.int .i64 x5_1∧z0_ (zz_.l0 kq l0 l1 x5_1=some true)∧z0_ (kq≤k)∧z0_ (Below w.heap.size w w'))
  case atStart=>exact ⟨(0),mq_,H',⟨Nat.le_refl _⟩,⟨mb_ HB⟩⟩
  clear H';(try clear c3b0);(try clear c3b1);(try clear c3b2);obtain ⟨x5_1,rfl,HA,HK1,HB⟩:=hrel;obtain _|k1:=gk
  ·exact absurd HA.out (by simp [zz_.l0])
  have H:=HA.out;clear HA;simp only [zz_.l0] at H;by_cases c4:x5_1<(l0.length:Int)
  ·rw [if_pos c4] at H;have c4b0:=ct_ c4;clear c4;by_cases c5:0≤x5_1
   case neg=>
    rw [if_neg c5] at H;cases H
   rw [if_pos c5] at H;have c5b0:=ct_ c5;clear c5;by_cases c6:x5_1<(l1.length:Int)
   case neg=>
    rw [if_neg c6] at H;cases H
   rw [if_pos c6] at H;have c6b0:=ct_ c6;clear c6;obtain ⟨t281,A7,H⟩:=ob_ H;by_cases c8:t281=true
   ·subst c8;rw [if_pos rfl] at H;have H':=a_ H;clear H;try go_wp2
    replace HB:=a_ (x2_ HB.out);have p279:0≤(x5_1:Int):=md_
    have q279:x5_1<(l0.length:Int):=md_
    obtain ⟨ad279,A279_3,c279_3,e279,hx279_0,hx279_1,hx279_2,hx279_3,hl279_3,hi279_3⟩:=at_T98 HR0.out x5_1 p279 q279;have hw279_3:=hx279_3;have hw279_2:=hx279_2;have hw279_1:=hx279_1;have hw279_0:=hx279_0;cases e279;replace hx279_0:=mx_ HB hx279_0;replace hx279_1:=mx_ HB hx279_1;replace hx279_2:=mx_ HB hx279_2;replace hx279_3:=mx_ HB hx279_3;have HR279_3:=a_ hi279_3;have HC279_3:=a_ hl279_3;clear hi279_3 hl279_3;replace p279:=eq_true p279;replace q279:=eq_true q279;have p280:0≤(x5_1:Int):=md_
    have q280:x5_1<(l1.length:Int):=md_
    obtain ⟨ad280,A280_3,c280_3,e280,hx280_0,hx280_1,hx280_2,hx280_3,hl280_3,hi280_3⟩:=at_T98 HR1.out x5_1 p280 q280;have hw280_3:=hx280_3;have hw280_2:=hx280_2;have hw280_1:=hx280_1;have hw280_0:=hx280_0;cases e280;replace hx280_0:=mx_ HB hx280_0;replace hx280_1:=mx_ HB hx280_1;replace hx280_2:=mx_ HB hx280_2;replace hx280_3:=mx_ HB hx280_3;have HR280_3:=a_ hi280_3;have HC280_3:=a_ hl280_3;clear hi280_3 hl280_3;replace p280:=eq_true p280;replace q280:=eq_true q280;refine start_ (n:=10) (S:=fun w'=>w'.cell? (ad279.add ((x5_1).toNat*4))=some (.int .i64 ((y3_ l0 x5_1).f0))∧w'.cell? ⟨(ad279.add ((x5_1).toNat*4)).block,(ad279.add ((x5_1).toNat*4)).off+1,none⟩=some (.int .i64 ((y3_ l0 x5_1).f1))∧w'.cell? ⟨(ad279.add ((x5_1).toNat*4)).block,(ad279.add ((x5_1).toNat*4)).off+2,none⟩=some (.string ((y3_ l0 x5_1).f2))∧w'.cell? ⟨(ad279.add ((x5_1).toNat*4)).block,(ad279.add ((x5_1).toNat*4)).off+3,none⟩=some (.slice A279_3 ((y3_ l0 x5_1).f3).length c279_3)∧w'.cell? (ad280.add ((x5_1).toNat*4))=some (.int .i64 ((y3_ l1 x5_1).f0))∧w'.cell? ⟨(ad280.add ((x5_1).toNat*4)).block,(ad280.add ((x5_1).toNat*4)).off+1,none⟩=some (.int .i64 ((y3_ l1 x5_1).f1))∧w'.cell? ⟨(ad280.add ((x5_1).toNat*4)).block,(ad280.add ((x5_1).toNat*4)).off+2,none⟩=some (.string ((y3_ l1 x5_1).f2))∧w'.cell? ⟨(ad280.add ((x5_1).toNat*4)).block,(ad280.add ((x5_1).toNat*4)).off+3,none⟩=some (.slice A280_3 ((y3_ l1 x5_1).f3).length c280_3)) (ds:=[]) becd_0 (by kernel_rfl) rfl rfl ⟨(mx_ HB hw279_0),(mx_ HB hw279_1),(mx_ HB hw279_2),(mx_ HB hw279_3),(mx_ HB hw280_0),(mx_ HB hw280_1),(mx_ HB hw280_2),(mx_ HB hw280_3)⟩ (fun hHeld=>?_);refine with_tabW zz_.tab6 zz_.bits6 (fun HT_ HW_=>?_);generalize wr.drew=w9 at HB HR279_3 HR280_3 hx279_0 hx279_1 hx279_2 hx279_3 hx280_0 hx280_1 hx280_2 hx280_3 hHeld ⊢;refine pu_ 0 17 becd_1 (ze_ HT_.out (by kernel_rfl)) ?_;refine pu_ 1 18 becd_2 (ze_ HT_.out (by kernel_rfl)) ?_;refine pu_ 2 19 becd_3 (ze_ HT_.out (by kernel_rfl)) ?_;refine pu_ 4 21 becd_4 (ze_ HT_.out (by kernel_rfl)) ?_;refine pu_ 5 22 becd_5 (ze_ HT_.out (by kernel_rfl)) ?_;refine pu_ 6 23 becd_6 (ze_ HT_.out (by kernel_rfl)) ?_;refine tk_ 3 20 becd_7 (w6_ HT_.out HW_.out (by kernel_rfl)) hHeld ?_;refine tk_ 7 24 becd_8 (w6_ HT_.out HW_.out (by kernel_rfl)) hHeld ?_
    refine one_ (i:=8) (N:=some 25) becd_9 rfl rfl (one_of HT_.out (by kernel_rfl)) (by decide) (fun K hK=>?_);refine goes_ Tryz.func142 (by kernel_rfl) rfl #[.agg #[.int .i64 ((y3_ l0 x5_1).f0),.int .i64 ((y3_ l0 x5_1).f1),.string ((y3_ l0 x5_1).f2),.slice A279_3 ((y3_ l0 x5_1).f3).length c279_3],.agg #[.int .i64 ((y3_ l1 x5_1).f0),.int .i64 ((y3_ l1 x5_1).f1),.string ((y3_ l1 x5_1).f2),.slice A280_3 ((y3_ l1 x5_1).f3).length c280_3]] (by rfl) rfl rfl mw_ ?_;with_reducible refine (we_.calls k1 ((y3_ l0 x5_1).f0) ((y3_ l0 x5_1).f1) ((y3_ l0 x5_1).f2) _ _ ((y3_ l0 x5_1).f3) ((y3_ l1 x5_1).f0) ((y3_ l1 x5_1).f1) ((y3_ l1 x5_1).f2) _ _ ((y3_ l1 x5_1).f3) true _ ?side1 ?side2 ?side3 ?side4 A7.out).mono ?_
    (case side1=>exact mt_ HR279_3 HB)
    (case side2=>exact HC279_3.out)
    (case side3=>exact mt_ HR280_3 HB)
    (case side4=>exact HC280_3.out)
    rintro e w10 ⟨rfl,hb⟩;refine ⟨_,rfl,?_⟩;replace HB:=ms_ HB hb;(try clear hb);(try clear hb2);(try clear hk);(try clear hi);refine hK.out _ _ ⟨(mx_ HB hw279_0),(mx_ HB hw279_1),(mx_ HB hw279_2),(mx_ HB hw279_3),(mx_ HB hw280_0),(mx_ HB hw280_1),(mx_ HB hw280_2),(mx_ HB hw280_3)⟩ (fun hHeld=>?_);clear hK K;refine nm_ 25 ?_;refine pu_ 9 26 becd_10 (ze_ HT_.out (by kernel_rfl)) ?_;refine done_ (done_of HT_.out (by kernel_rfl)) ?_;try go_wp2
    go_roundg k1
    case measure=>
     have:=HK1.out
     omega
    case rel=>exact ⟨(wrap64 (x5_1+1)),mq_,H',⟨by have:=HK1.out;omega⟩,⟨mb_ HB⟩⟩
   ·replace c8:=Bool.eq_false_iff.mpr c8;subst c8;rw [if_neg (show ¬(false=true) by decide)] at H;exact absurd (Option.some.inj H) (by decide)
  ·rw [if_neg c4] at H;have c4b0:=cf_ c4;clear c4;clear H;go_wp2;go_ret;exact ⟨me_,mb_ HB⟩
 ·rw [if_neg c3] at H;obtain ⟨c3b0,c3b1⟩:=bn_ c3;have c3b2:(l0.length==l1.length)=false:=by first|simpa using c3|(simp at c3 ⊢;omega)
  exact absurd (Option.some.inj H) (by decide)
def laws_eqRule.f (k:Nat) (a0_0:ByteArray) (a0_1:Int) (l0_2:List (S42)) (l0_3:List (S161)) (l0_4:List (S98)) (a1_0:ByteArray) (a1_1:Int) (l1_2:List (S42)) (l1_3:List (S161)) (l1_4:List (S98)):Option (Bool):=if a0_0.toList=a1_0.toList then (if a0_1=a1_1 then ((zv_.f k l0_2 l1_2).bind fun t284=>(if t284=true then ((yd_.f k l0_3 l1_3).bind fun t285=>(if t285=true then ((zz_.f k l0_4 l1_4).bind fun t286=>(if t286=true then (some true) else (some false))) else (some false))) else (some false))) else (some false)) else (some false)
theorem laws_eqRule.mono:∀a0 a1 a2 a3 a4 a5 a6 a7 a8 a9 k,LeO (laws_eqRule.f k a0 a1 a2 a3 a4 a5 a6 a7 a8 a9) (laws_eqRule.f (k+1) a0 a1 a2 a3 a4 a5 a6 a7 a8 a9):=by
 intro a0 a1 a2 a3 a4 a5 a6 a7 a8 a9 k;unfold laws_eqRule.f
 repeat' with_reducible first|apply zz_.mono|apply yd_.mono|apply zv_.mono|apply LeO.refl|apply LeO.none|refine LeO.ite ?_ ?_|refine LeO.bind ?_ (fun _=>?_)
theorem uecd_0 {p:Prop} (h:p:=by
 rw [if_neg (show ¬(false=true) by decide)] at H;exact absurd (Option.some.inj H) (by decide)):p:=h
set_option maxHeartbeats 8000000 in
set_option maxRecDepth 100000 in
theorem laws_eqRule.calls (k:Nat) (a0_0:ByteArray) (a0_1:Int) (A0_2:Option Addr) (c0_2:Nat) (l0_2:List (S42)) (A0_3:Option Addr) (c0_3:Nat) (l0_3:List (S161)) (A0_4:Option Addr) (c0_4:Nat) (l0_4:List (S98)) (a1_0:ByteArray) (a1_1:Int) (A1_2:Option Addr) (c1_2:Nat) (l1_2:List (S42)) (A1_3:Option Addr) (c1_3:Nat) (l1_3:List (S161)) (A1_4:Option Addr) (c1_4:Nat) (l1_4:List (S98)) (r:Bool) (w:World) (hr0_2:Kd.C k42 w A0_2 l0_2.length l0_2) (hc0_2:l0_2.length≤c0_2) (hr0_3:Kd.C k161 w A0_3 l0_3.length l0_3) (hc0_3:l0_3.length≤c0_3) (hr0_4:Kd.C k98 w A0_4 l0_4.length l0_4) (hc0_4:l0_4.length≤c0_4) (hr1_2:Kd.C k42 w A1_2 l1_2.length l1_2) (hc1_2:l1_2.length≤c1_2) (hr1_3:Kd.C k161 w A1_3 l1_3.length l1_3) (hc1_3:l1_3.length≤c1_3) (hr1_4:Kd.C k98 w A1_4 l1_4.length l1_4) (hc1_4:l1_4.length≤c1_4) (h:laws_eqRule.f k a0_0 a0_1 l0_2 l0_3 l0_4 a1_0 a1_1 l1_2 l1_3 l1_4=some r) (hT_:r=true:=by first|rfl|assumption):
  Calls Tryz.prog 47 #[.agg #[.string a0_0,.int .i64 a0_1,.slice A0_2 l0_2.length c0_2,.slice A0_3 l0_3.length c0_3,.slice A0_4 l0_4.length c0_4],.agg #[.string a1_0,.int .i64 a1_1,.slice A1_2 l1_2.length c1_2,.slice A1_3 l1_3.length c1_3,.slice A1_4 l1_4.length c1_4]] w fun e w'=>e=.returned (.bool r)∧Below w.heap.size w w':=by
 subst hT_;have hu39:=Tryz.underlying39;have HR0_2:=a_ hr0_2;have HC0_2:=a_ hc0_2;clear hr0_2 hc0_2;have HR0_3:=a_ hr0_3;have HC0_3:=a_ hc0_3;clear hr0_3 hc0_3;have HR0_4:=a_ hr0_4;have HC0_4:=a_ hc0_4;clear hr0_4 hc0_4;have HR1_2:=a_ hr1_2;have HC1_2:=a_ hc1_2;clear hr1_2 hc1_2;have HR1_3:=a_ hr1_3;have HC1_3:=a_ hc1_3;clear hr1_3 hc1_3;have HR1_4:=a_ hr1_4;have HC1_4:=a_ hc1_4;clear hr1_4 hc1_4;have HB:=a_ (Below.refl w.heap.size w);have H:=h;unfold laws_eqRule.f at H
 clear h;by_cases c3:a0_0.toList=a1_0.toList
 case neg=>
  rw [if_neg c3] at H;obtain ⟨c3b0,c3b1⟩:=bn_ c3;exact absurd (Option.some.inj H) (by decide)
 rw [if_pos c3] at H;obtain ⟨c3b0,c3b1⟩:=bq_ c3;clear c3;by_cases c4:a0_1=a1_1
 case neg=>
  rw [if_neg c4] at H;obtain ⟨c4b0,c4b1⟩:=bn_ c4;exact absurd (Option.some.inj H) (by decide)
 rw [if_pos c4] at H;obtain ⟨c4b0,c4b1⟩:=bq_ c4;clear c4;obtain ⟨t284,A5,H⟩:=ob_ H;by_cases c6:t284=true
 ·subst c6;rw [if_pos rfl] at H;obtain ⟨t285,A7,H⟩:=ob_ H;by_cases c8:t285=true
  ·subst c8;rw [if_pos rfl] at H;obtain ⟨t286,A9,H⟩:=ob_ H;by_cases c10:t286=true
   ·subst c10;rw [if_pos rfl] at H;clear H;go_enter Tryz.func47,Tryz.ntmps47;go_wp2_with (first|((with_reducible refine zl_ (N:=2) rfl ?_);refine bh_ 2 #[.string a0_0,.int .i64 a0_1,.slice A0_2 l0_2.length c0_2,.slice A0_3 l0_3.length c0_3,.slice A0_4 l0_4.length c0_4] 39 HB ?_;intro gb282 hg wx BK282 GE282 hb;replace HB:=ms_ HB hb;clear hb hg)|((with_reducible refine zl_ (N:=3) rfl ?_);refine bh_ 3 #[.string a1_0,.int .i64 a1_1,.slice A1_2 l1_2.length c1_2,.slice A1_3 l1_3.length c1_3,.slice A1_4 l1_4.length c1_4] 39 HB ?_;intro gb283 hg wx BK283 GE283 hb;obtain ⟨NB282_283,NB283_282⟩:=mn_ BK282 hg;replace BK282:=mk_ BK282 hb;replace HB:=ms_ HB hb;clear hb hg;have nNB282_283:=NB282_283.out;have nNB283_282:=NB283_282.out;replace hz282:=cz5 BK282;replace hz283:=cz5 BK283)|((with_reducible refine zg_ (f:=91) rfl ?_);refine xf_ (some 19) rfl rfl Tryz.func91 (by kernel_rfl) rfl #[.slice A0_2 l0_2.length c0_2,.slice A1_2 l1_2.length c1_2] rfl mw_ ?_;(with_reducible refine (zv_.calls k _ _ l0_2 _ _ l1_2 true _ ?side1 HC0_2.out ?side3 HC1_2.out A5.out).mono ?_);(case side1=>exact mt_ HR0_2 HB);(case side3=>exact mt_ HR1_2 HB);rintro e wx ⟨rfl,hb⟩;refine ⟨_,rfl,?_⟩;replace BK282:=mk_ BK282 hb;replace BK283:=mk_ BK283 hb;replace HB:=ms_ HB hb;(try clear hb);replace hz282:=cz5 BK282;replace hz283:=cz5 BK283)|((with_reducible refine zg_ (f:=92) rfl ?_);refine xf_ (some 25) rfl rfl Tryz.func92 (by kernel_rfl) rfl #[.slice A0_3 l0_3.length c0_3,.slice A1_3 l1_3.length c1_3] rfl mw_ ?_;(with_reducible refine (yd_.calls k _ _ l0_3 _ _ l1_3 true _ ?side1 HC0_3.out ?side3 HC1_3.out A7.out).mono ?_);(case side1=>exact mt_ HR0_3 HB);(case side3=>exact mt_ HR1_3 HB);rintro e wx ⟨rfl,hb⟩;refine ⟨_,rfl,?_⟩;replace BK282:=mk_ BK282 hb;replace BK283:=mk_ BK283 hb;replace HB:=ms_ HB hb;(try clear hb);replace hz282:=cz5 BK282;replace hz283:=cz5 BK283)|((with_reducible refine zg_ (f:=93) rfl ?_);refine xf_ (some 31) rfl rfl Tryz.func93 (by kernel_rfl) rfl #[.slice A0_4 l0_4.length c0_4,.slice A1_4 l1_4.length c1_4] rfl mw_ ?_;(with_reducible refine (zz_.calls k _ _ l0_4 _ _ l1_4 true _ ?side1 HC0_4.out ?side3 HC1_4.out A9.out).mono ?_);(case side1=>exact mt_ HR0_4 HB);(case side3=>exact mt_ HR1_4 HB);rintro e wx ⟨rfl,hb⟩;refine ⟨_,rfl,?_⟩;replace BK282:=mk_ BK282 hb;replace BK283:=mk_ BK283 hb;replace HB:=ms_ HB hb;(try clear hb)));go_ret;exact ⟨me_,mb_ HB⟩
   ·replace c10:=Bool.eq_false_iff.mpr c10;subst c10;exact uecd_0
  ·replace c8:=Bool.eq_false_iff.mpr c8;subst c8;exact uecd_0
 ·replace c6:=Bool.eq_false_iff.mpr c6;subst c6;exact uecd_0
def yh_.l0:Nat→List (S39)→List (S39)→Int→Option (Bool)
 | 0,_,_,_=>none
 | k+1,x0,x1,x5=>if x5<(x0.length:Int) then (if 0≤x5 then (if x5<(x1.length:Int) then ((laws_eqRule.f k ((z9_ x0 x5).f0) ((z9_ x0 x5).f1) ((z9_ x0 x5).f2) ((z9_ x0 x5).f3) ((z9_ x0 x5).f4) ((z9_ x1 x5).f0) ((z9_ x1 x5).f1) ((z9_ x1 x5).f2) ((z9_ x1 x5).f3) ((z9_ x1 x5).f4)).bind fun t289=>(if t289=true then (yh_.l0 k x0 x1 (wrap64 (x5+1))) else (some false))) else (none)) else (none)) else (some true)
def yh_.f (k:Nat) (l0:List (S39)) (l1:List (S39)):Option (Bool):=if (l0.length:Int)=(l1.length:Int) then (yh_.l0 k l0 l1 0) else (some false)
theorem yh_.y6_:∀k,(∀y0 y1 y2,LeO (yh_.l0 k y0 y1 y2) (yh_.l0 (k+1) y0 y1 y2))
 | 0=>fun _ _ _ r h=>by simp [yh_.l0] at h
 | k+1=>by
  have ih0:=yh_.y6_ k
  ·intro y0 y1 y2;unfold yh_.l0
   repeat' with_reducible first|apply ih0|apply laws_eqRule.mono|apply LeO.refl|apply LeO.none|refine LeO.ite ?_ ?_|refine LeO.bind ?_ (fun _=>?_)
theorem yh_.mono:∀a0 a1 k,LeO (yh_.f k a0 a1) (yh_.f (k+1) a0 a1):=by
 intro a0 a1 k;have ih0:=yh_.y6_ k;unfold yh_.f
 repeat' with_reducible first|apply ih0|apply laws_eqRule.mono|apply LeO.refl|apply LeO.none|refine LeO.ite ?_ ?_|refine LeO.bind ?_ (fun _=>?_)
def yh_.T6:Bool×List (List Nat×List Nat):=(true,[([],[]),([],[]),([0,1],[0,1]),([2],[2]),([],[]),([],[]),([4,5],[4,5]),([6],[6]),([3,7],[3,7]),([8],[8])])
def yh_.B6:List Nat:=[0,0,3,7,0,0,48,112,255,511]
theorem yh_.tab6:rtab .any (opsOf Tryz.f17 6)=yh_.T6:=by kernel_rfl
theorem yh_.bits6:waitsOk yh_.T6.2 yh_.B6=true:=by kernel_rfl
abbrev b3fc_0:Array Bool:=#[f_,f_,f_,f_,f_,f_,f_,f_,f_,f_]
abbrev b3fc_1:Array Bool:=#[t_,f_,f_,f_,f_,f_,f_,f_,f_,f_]
abbrev b3fc_2:Array Bool:=#[t_,t_,f_,f_,f_,f_,f_,f_,f_,f_]
abbrev b3fc_3:Array Bool:=#[t_,t_,t_,f_,f_,f_,f_,f_,f_,f_]
abbrev b3fc_4:Array Bool:=#[t_,t_,t_,f_,t_,f_,f_,f_,f_,f_]
abbrev b3fc_5:Array Bool:=#[t_,t_,t_,f_,t_,t_,f_,f_,f_,f_]
abbrev b3fc_6:Array Bool:=#[t_,t_,t_,f_,t_,t_,t_,f_,f_,f_]
abbrev b3fc_7:Array Bool:=#[t_,t_,t_,t_,t_,t_,t_,f_,f_,f_]
abbrev b3fc_8:Array Bool:=#[t_,t_,t_,t_,t_,t_,t_,t_,f_,f_]
abbrev b3fc_9:Array Bool:=#[t_,t_,t_,t_,t_,t_,t_,t_,t_,f_]
abbrev b3fc_10:Array Bool:=#[t_,t_,t_,t_,t_,t_,t_,t_,t_,t_]
set_option maxHeartbeats 8000000 in
set_option maxRecDepth 100000 in
theorem yh_.calls (k:Nat) (A0:Option Addr) (c0:Nat) (l0:List (S39)) (A1:Option Addr) (c1:Nat) (l1:List (S39)) (r:Bool) (w:World) (hr0:Kd.C k39 w A0 l0.length l0) (hc0:l0.length≤c0) (hr1:Kd.C k39 w A1 l1.length l1) (hc1:l1.length≤c1) (h:yh_.f k l0 l1=some r) (hT_:r=true:=by first|rfl|assumption):
  Calls Tryz.prog 17 #[.slice A0 l0.length c0,.slice A1 l1.length c1] w fun e w'=>e=.returned (.bool r)∧Below w.heap.size w w':=by
 subst hT_;have hu39:=Tryz.underlying39;have HR0:=a_ hr0;have HC0:=a_ hc0;clear hr0 hc0;have HR1:=a_ hr1;have HC1:=a_ hc1;clear hr1 hc1;have HB:=a_ (Below.refl w.heap.size w);have H:(if (l0.length:Int)=(l1.length:Int) then (yh_.l0 k l0 l1 0) else (some false))=some true:=h
 clear h;by_cases c3:(l0.length:Int)=(l1.length:Int)
 ·rw [if_pos c3] at H;obtain ⟨c3b0,c3b1⟩:=bq_ c3;have c3b2:(l0.length==l1.length)=true:=by first|simpa using c3|(simp at c3 ⊢;omega)
  clear c3;have H':=a_ H;clear H;go_enter Tryz.func17,Tryz.ntmps17;go_wp2;go_loopg [5] k (fun kq v5 w'=>∃(x5_1:Int),v5=.int .i64 x5_1∧z0_ (yh_.l0 kq l0 l1 x5_1=some true)∧z0_ (kq≤k)∧z0_ (Below w.heap.size w w'))
  case atStart=>exact ⟨(0),mq_,H',⟨Nat.le_refl _⟩,⟨mb_ HB⟩⟩
  clear H';(try clear c3b0);(try clear c3b1);(try clear c3b2);obtain ⟨x5_1,rfl,HA,HK1,HB⟩:=hrel;obtain _|k1:=gk
  ·exact absurd HA.out (by simp [yh_.l0])
  have H:=HA.out;clear HA;simp only [yh_.l0] at H;by_cases c4:x5_1<(l0.length:Int)
  ·rw [if_pos c4] at H;have c4b0:=ct_ c4;clear c4;by_cases c5:0≤x5_1
   case neg=>
    rw [if_neg c5] at H;cases H
   rw [if_pos c5] at H;have c5b0:=ct_ c5;clear c5;by_cases c6:x5_1<(l1.length:Int)
   case neg=>
    rw [if_neg c6] at H;cases H
   rw [if_pos c6] at H;have c6b0:=ct_ c6;clear c6;obtain ⟨t289,A7,H⟩:=ob_ H;by_cases c8:t289=true
   ·subst c8;rw [if_pos rfl] at H;have H':=a_ H;clear H;try go_wp2
    replace HB:=a_ (x2_ HB.out);have p287:0≤(x5_1:Int):=md_
    have q287:x5_1<(l0.length:Int):=md_
    obtain ⟨ad287,A287_2,c287_2,A287_3,c287_3,A287_4,c287_4,e287,hx287_0,hx287_1,hx287_2,hx287_3,hx287_4,hl287_2,hi287_2,hl287_3,hi287_3,hl287_4,hi287_4⟩:=at_T39 HR0.out x5_1 p287 q287;have hw287_4:=hx287_4;have hw287_3:=hx287_3;have hw287_2:=hx287_2;have hw287_1:=hx287_1;have hw287_0:=hx287_0;cases e287;replace hx287_0:=mx_ HB hx287_0;replace hx287_1:=mx_ HB hx287_1;replace hx287_2:=mx_ HB hx287_2;replace hx287_3:=mx_ HB hx287_3;replace hx287_4:=mx_ HB hx287_4;have HR287_2:=a_ hi287_2;have HC287_2:=a_ hl287_2;clear hi287_2 hl287_2;have HR287_3:=a_ hi287_3;have HC287_3:=a_ hl287_3;clear hi287_3 hl287_3;have HR287_4:=a_ hi287_4;have HC287_4:=a_ hl287_4;clear hi287_4 hl287_4;replace p287:=eq_true p287;replace q287:=eq_true q287;have p288:0≤(x5_1:Int):=md_
    have q288:x5_1<(l1.length:Int):=md_
    obtain ⟨ad288,A288_2,c288_2,A288_3,c288_3,A288_4,c288_4,e288,hx288_0,hx288_1,hx288_2,hx288_3,hx288_4,hl288_2,hi288_2,hl288_3,hi288_3,hl288_4,hi288_4⟩:=at_T39 HR1.out x5_1 p288 q288;have hw288_4:=hx288_4;have hw288_3:=hx288_3;have hw288_2:=hx288_2;have hw288_1:=hx288_1;have hw288_0:=hx288_0;cases e288;replace hx288_0:=mx_ HB hx288_0;replace hx288_1:=mx_ HB hx288_1;replace hx288_2:=mx_ HB hx288_2;replace hx288_3:=mx_ HB hx288_3;replace hx288_4:=mx_ HB hx288_4;have HR288_2:=a_ hi288_2;have HC288_2:=a_ hl288_2;clear hi288_2 hl288_2;have HR288_3:=a_ hi288_3;have HC288_3:=a_ hl288_3;clear hi288_3 hl288_3;have HR288_4:=a_ hi288_4;have HC288_4:=a_ hl288_4;clear hi288_4 hl288_4;replace p288:=eq_true p288;replace q288:=eq_true q288;refine start_ (n:=10) (S:=fun w'=>w'.cell? (ad287.add ((x5_1).toNat*5))=some (.string ((z9_ l0 x5_1).f0))∧w'.cell? ⟨(ad287.add ((x5_1).toNat*5)).block,(ad287.add ((x5_1).toNat*5)).off+1,none⟩=some (.int .i64 ((z9_ l0 x5_1).f1))∧w'.cell? ⟨(ad287.add ((x5_1).toNat*5)).block,(ad287.add ((x5_1).toNat*5)).off+2,none⟩=some (.slice A287_2 ((z9_ l0 x5_1).f2).length c287_2)∧w'.cell? ⟨(ad287.add ((x5_1).toNat*5)).block,(ad287.add ((x5_1).toNat*5)).off+3,none⟩=some (.slice A287_3 ((z9_ l0 x5_1).f3).length c287_3)∧w'.cell? ⟨(ad287.add ((x5_1).toNat*5)).block,(ad287.add ((x5_1).toNat*5)).off+4,none⟩=some (.slice A287_4 ((z9_ l0 x5_1).f4).length c287_4)∧w'.cell? (ad288.add ((x5_1).toNat*5))=some (.string ((z9_ l1 x5_1).f0))∧w'.cell? ⟨(ad288.add ((x5_1).toNat*5)).block,(ad288.add ((x5_1).toNat*5)).off+1,none⟩=some (.int .i64 ((z9_ l1 x5_1).f1))∧w'.cell? ⟨(ad288.add ((x5_1).toNat*5)).block,(ad288.add ((x5_1).toNat*5)).off+2,none⟩=some (.slice A288_2 ((z9_ l1 x5_1).f2).length c288_2)∧w'.cell? ⟨(ad288.add ((x5_1).toNat*5)).block,(ad288.add ((x5_1).toNat*5)).off+3,none⟩=some (.slice A288_3 ((z9_ l1 x5_1).f3).length c288_3)∧w'.cell? ⟨(ad288.add ((x5_1).toNat*5)).block,(ad288.add ((x5_1).toNat*5)).off+4,none⟩=some (.slice A288_4 ((z9_ l1 x5_1).f4).length c288_4)) (ds:=[]) b3fc_0 (by kernel_rfl) rfl rfl ⟨(mx_ HB hw287_0),(mx_ HB hw287_1),(mx_ HB hw287_2),(mx_ HB hw287_3),(mx_ HB hw287_4),(mx_ HB hw288_0),(mx_ HB hw288_1),(mx_ HB hw288_2),(mx_ HB hw288_3),(mx_ HB hw288_4)⟩ (fun hHeld=>?_);refine with_tabW yh_.tab6 yh_.bits6 (fun HT_ HW_=>?_);generalize wr.drew=w9 at HB HR287_2 HR287_3 HR287_4 HR288_2 HR288_3 HR288_4 hx287_0 hx287_1 hx287_2 hx287_3 hx287_4 hx288_0 hx288_1 hx288_2 hx288_3 hx288_4 hHeld ⊢;refine pu_ 0 17 b3fc_1 (ze_ HT_.out (by kernel_rfl)) ?_;refine pu_ 1 18 b3fc_2 (ze_ HT_.out (by kernel_rfl)) ?_
    refine pu_ 2 19 b3fc_3 (ze_ HT_.out (by kernel_rfl)) ?_;refine pu_ 4 21 b3fc_4 (ze_ HT_.out (by kernel_rfl)) ?_;refine pu_ 5 22 b3fc_5 (ze_ HT_.out (by kernel_rfl)) ?_;refine pu_ 6 23 b3fc_6 (ze_ HT_.out (by kernel_rfl)) ?_;refine tk_ 3 20 b3fc_7 (w6_ HT_.out HW_.out (by kernel_rfl)) hHeld ?_;refine tk_ 7 24 b3fc_8 (w6_ HT_.out HW_.out (by kernel_rfl)) hHeld ?_;refine one_ (i:=8) (N:=some 25) b3fc_9 rfl rfl (one_of HT_.out (by kernel_rfl)) (by decide) (fun K hK=>?_);refine goes_ Tryz.func47 (by kernel_rfl) rfl #[.agg #[.string ((z9_ l0 x5_1).f0),.int .i64 ((z9_ l0 x5_1).f1),.slice A287_2 ((z9_ l0 x5_1).f2).length c287_2,.slice A287_3 ((z9_ l0 x5_1).f3).length c287_3,.slice A287_4 ((z9_ l0 x5_1).f4).length c287_4],.agg #[.string ((z9_ l1 x5_1).f0),.int .i64 ((z9_ l1 x5_1).f1),.slice A288_2 ((z9_ l1 x5_1).f2).length c288_2,.slice A288_3 ((z9_ l1 x5_1).f3).length c288_3,.slice A288_4 ((z9_ l1 x5_1).f4).length c288_4]] (by rfl) rfl rfl mw_ ?_;with_reducible refine (laws_eqRule.calls k1 ((z9_ l0 x5_1).f0) ((z9_ l0 x5_1).f1) _ _ ((z9_ l0 x5_1).f2) _ _ ((z9_ l0 x5_1).f3) _ _ ((z9_ l0 x5_1).f4) ((z9_ l1 x5_1).f0) ((z9_ l1 x5_1).f1) _ _ ((z9_ l1 x5_1).f2) _ _ ((z9_ l1 x5_1).f3) _ _ ((z9_ l1 x5_1).f4) true _ ?side1 ?side2 ?side3 ?side4 ?side5 ?side6 ?side7 ?side8 ?side9 ?side10 ?side11 ?side12 A7.out).mono ?_
    (case side1=>exact mt_ HR287_2 HB)
    (case side2=>exact HC287_2.out)
    (case side3=>exact mt_ HR287_3 HB)
    (case side4=>exact HC287_3.out)
    (case side5=>exact mt_ HR287_4 HB)
    (case side6=>exact HC287_4.out)
    (case side7=>exact mt_ HR288_2 HB)
    (case side8=>exact HC288_2.out)
    (case side9=>exact mt_ HR288_3 HB)
    (case side10=>exact HC288_3.out)
    (case side11=>exact mt_ HR288_4 HB)
    (case side12=>exact HC288_4.out)
    rintro e w10 ⟨rfl,hb⟩;refine ⟨_,rfl,?_⟩;replace HB:=ms_ HB hb;(try clear hb);(try clear hb2);(try clear hk);(try clear hi);refine hK.out _ _ ⟨(mx_ HB hw287_0),(mx_ HB hw287_1),(mx_ HB hw287_2),(mx_ HB hw287_3),(mx_ HB hw287_4),(mx_ HB hw288_0),(mx_ HB hw288_1),(mx_ HB hw288_2),(mx_ HB hw288_3),(mx_ HB hw288_4)⟩ (fun hHeld=>?_);clear hK K;refine nm_ 25 ?_;refine pu_ 9 26 b3fc_10 (ze_ HT_.out (by kernel_rfl)) ?_;refine done_ (done_of HT_.out (by kernel_rfl)) ?_;try go_wp2
    go_roundg k1
    case measure=>
     have:=HK1.out
     omega
    case rel=>exact ⟨(wrap64 (x5_1+1)),mq_,H',⟨by have:=HK1.out;omega⟩,⟨mb_ HB⟩⟩
   ·replace c8:=Bool.eq_false_iff.mpr c8;subst c8;rw [if_neg (show ¬(false=true) by decide)] at H;exact absurd (Option.some.inj H) (by decide)
  ·rw [if_neg c4] at H;have c4b0:=cf_ c4;clear c4;clear H;go_wp2;go_ret;exact ⟨me_,mb_ HB⟩
 ·rw [if_neg c3] at H;obtain ⟨c3b0,c3b1⟩:=bn_ c3;have c3b2:(l0.length==l1.length)=false:=by first|simpa using c3|(simp at c3 ⊢;omega)
  exact absurd (Option.some.inj H) (by decide)
def zi_.l0:Nat→Int→ByteArray→Option (ByteArray)
 | 0,_,_=>none
 | k+1,x0,x3=>if x0>0 then ((some (([(wrap64 (48+(Int.tmod x0 10))) % 256]:List Int):List Int)).bind fun y290=>(if (strOfNums y290).size+x3.size≤9223372036854775807 then (zi_.l0 k (wrap64 (Int.tdiv x0 10)) ((strOfNums y290)++x3)) else (none))) else (if 1+x3.size≤9223372036854775807 then (some ((⟨#[109]⟩:ByteArray)++x3)) else (none))
def zi_.f (k:Nat) (a0:Int):Option (ByteArray):=if a0≤0 then (some (⟨#[109,48]⟩:ByteArray)) else (zi_.l0 k a0 (⟨#[]⟩:ByteArray))
theorem zi_.y6_:∀k,(∀y0 y1,LeO (zi_.l0 k y0 y1) (zi_.l0 (k+1) y0 y1))
 | 0=>fun _ _ r h=>by simp [zi_.l0] at h
 | k+1=>by
  have ih0:=zi_.y6_ k
  ·intro y0 y1;unfold zi_.l0
   repeat' with_reducible first|apply ih0|apply LeO.refl|apply LeO.none|refine LeO.ite ?_ ?_|refine LeO.bind ?_ (fun _=>?_)
theorem zi_.mono:∀a0 k,LeO (zi_.f k a0) (zi_.f (k+1) a0):=by
 intro a0 k;have ih0:=zi_.y6_ k;unfold zi_.f
 repeat' with_reducible first|apply ih0|apply LeO.refl|apply LeO.none|refine LeO.ite ?_ ?_|refine LeO.bind ?_ (fun _=>?_)
set_option maxHeartbeats 8000000 in
set_option maxRecDepth 100000 in
theorem zi_.calls (k:Nat) (a0:Int) (r:ByteArray) (w:World) (h:zi_.f k a0=some r):
  Calls Tryz.prog 48 #[.int .i64 a0] w fun e w'=>e=.returned (.string r)∧Below w.heap.size w w':=by
 have HB:=a_ (Below.refl w.heap.size w);have H:=h;unfold zi_.f at H
 clear h;by_cases c2:a0≤0
 ·rw [if_pos c2] at H;have c2b0:=ct_ c2;clear c2;obtain rfl:=oi_ H;go_enter Tryz.func48,Tryz.ntmps48;go_wp2;go_ret;exact ⟨me_,mb_ HB⟩
 ·rw [if_neg c2] at H;have c2b0:=cf_ c2;clear c2;have H':=a_ H;clear H;go_enter Tryz.func48,Tryz.ntmps48;go_wp2;go_loopg [0,3] k (fun kq v0 v3 w'=>∃(x0_1:Int) (x3_1:ByteArray),v0=.int .i64 x0_1∧v3=.string x3_1∧z0_ (zi_.l0 kq x0_1 x3_1=some r)∧z0_ (kq≤k)∧z0_ (Below w.heap.size w w'))
  case atStart=>exact ⟨(a0),((⟨#[]⟩:ByteArray)),mq_,mq_,H',⟨Nat.le_refl _⟩,⟨mb_ HB⟩⟩
  clear H';(try clear c2b0);obtain ⟨x0_1,x3_1,rfl,rfl,HA,HK1,HB⟩:=hrel;obtain _|k1:=gk
  ·exact absurd HA.out (by simp [zi_.l0])
  have H:=HA.out;clear HA;simp only [zi_.l0] at H;by_cases c3:x0_1>0
  ·rw [if_pos c3] at H;have c3b0:=ct_ c3;clear c3;obtain ⟨y290,hy290⟩:∃y_:List Int,y_=(([(wrap64 (48+(Int.tmod x0_1 10))) % 256]:List Int)):=⟨_,rfl⟩;rw [←hy290] at H;(try rw [Option.bind_some] at H);have Ny290:=a_ hy290;clear hy290;by_cases c4:(strOfNums y290).size+x3_1.size≤9223372036854775807
   case neg=>
    rw [if_neg c4] at H;cases H
   rw [if_pos c4] at H;have c4b0:=eq_true c4;have c4b1:=ct_ c4;try have c4b2:(9223372036854775807<(strOfNums y290).size+x3_1.size)=False:=eq_false (Nat.not_lt.2 c4)
   have H':=a_ H;clear H;go_wp2_with (first|((with_reducible refine zl_ (N:=12) rfl ?_);refine Kd.R_lit (Kd.int .u8) _ 5 ?hg (N:=12) ?hd (xs:=([(wrap64 (48+(Int.tmod x0_1 10))) % 256]:List Int)) (inner:=[.int .u8 ((wrap64 (48+(Int.tmod x0_1 10))) % 256)]) (ok:=fun _=>True) (okp:=fun _=>True) ?hr ?hp (fun _ hk=>hk) trivial (Below.refl _ _) (Nat.le_refl _) (by simp) ?_;(case hd=>rfl);(case hg=>rfl);(case hr=>first|(go_simp;done)|(go_simp;rfl));(case hp=>exact (Reps.one (show Kd.M (Kd.int .u8) _ _ _ ((wrap64 (48+(Int.tmod x0_1 10))) % 256) [.int .u8 ((wrap64 (48+(Int.tmod x0_1 10))) % 256)] from rfl) (Reps.none _ _)));intro v291 wx ho6 hb hg_ hnew_;clear hg_ hnew_;(first|rw [←Ny290.out] at ho6|(simp only [Int.reduceToNat] at ho6;rw [←Ny290.out] at ho6));have HO292:=a_ (Kd.R_lower ho6 (zw_ (mb_ HB)));replace HB:=ms_ HB hb;clear hb ho6;have hcv7:=own_string (P:=Tryz.prog) Tryz.underlying22 Tryz.underlying5 Tryz.underlying9 (Kd.own_of_R HO292.out)));go_roundg k1
   case measure=>
    have:=HK1.out
    omega
   case rel=>exact ⟨(wrap64 (Int.tdiv x0_1 10)),((strOfNums y290)++x3_1),mq_,mq_,H',⟨by have:=HK1.out;omega⟩,⟨mb_ HB⟩⟩
  ·rw [if_neg c3] at H;have c3b0:=cf_ c3;clear c3;by_cases c8:1+x3_1.size≤9223372036854775807
   case neg=>
    rw [if_neg c8] at H;cases H
   rw [if_pos c8] at H;have c8b0:=eq_true c8;have c8b1:=ct_ c8;try have c8b2:(9223372036854775807<1+x3_1.size)=False:=eq_false (Nat.not_lt.2 c8)
   obtain rfl:=oi_ H;go_wp2;go_ret;exact ⟨me_,mb_ HB⟩
def w0_.l0:Nat→List (S86)→Int→Int→Option (Int×(List (S86)))
 | 0,_,_,_=>none
 | k+1,x0,x1,x5=>if x5<(x0.length:Int) then (if 0≤x5 then ((some (x0.set (x5:Int).toNat (⟨x1,(z6_ x0 x5).f1,(z6_ x0 x5).f2,(⟨(z6_ x0 x5).f3.f0,(z6_ x0 x5).f3.f1,(z6_ x0 x5).f3.f2⟩:S80)⟩:S86):List (S86))).bind fun y293=>((some (y293.set (x5:Int).toNat (⟨(z6_ y293 x5).f0,wrap64 (x1+1),(z6_ y293 x5).f2,(⟨(z6_ y293 x5).f3.f0,(z6_ y293 x5).f3.f1,(z6_ y293 x5).f3.f2⟩:S80)⟩:S86):List (S86))).bind fun y294=>((zi_.f k (wrap64 ((wrap64 (x1+1))+1))).bind fun t295=>((some (y294.set (x5:Int).toNat (⟨(z6_ y294 x5).f0,(z6_ y294 x5).f1,t295,(⟨(z6_ y294 x5).f3.f0,(z6_ y294 x5).f3.f1,(z6_ y294 x5).f3.f2⟩:S80)⟩:S86):List (S86))).bind fun y296=>((some (y296.set (x5:Int).toNat (⟨(z6_ y296 x5).f0,(z6_ y296 x5).f1,(z6_ y296 x5).f2,(⟨wrap64 ((wrap64 ((wrap64 (x1+1))+1))+1),(z6_ y296 x5).f3.f1,(z6_ y296 x5).f3.f2⟩:S80)⟩:S86):List (S86))).bind fun y297=>((some (y297.set (x5:Int).toNat (⟨(z6_ y297 x5).f0,(z6_ y297 x5).f1,(z6_ y297 x5).f2,(⟨(z6_ y297 x5).f3.f0,wrap64 ((wrap64 ((wrap64 ((wrap64 (x1+1))+1))+1))+1),(z6_ y297 x5).f3.f2⟩:S80)⟩:S86):List (S86))).bind fun y298=>((zi_.f k (wrap64 ((wrap64 ((wrap64 ((wrap64 ((wrap64 (x1+1))+1))+1))+1))+1))).bind fun t299=>(w0_.l0 k (y298.set (x5:Int).toNat (⟨(z6_ y298 x5).f0,(z6_ y298 x5).f1,(z6_ y298 x5).f2,(⟨(z6_ y298 x5).f3.f0,(z6_ y298 x5).f3.f1,t299⟩:S80)⟩:S86)) (wrap64 ((wrap64 ((wrap64 ((wrap64 ((wrap64 ((wrap64 (x1+1))+1))+1))+1))+1))+1)) (wrap64 (x5+1)))))))))) else (none)) else (some (x1,x0))
def w0_.f (k:Nat) (l0:List (S86)) (a1:Int):Option (Int×(List (S86))):=w0_.l0 k l0 a1 0
theorem w0_.y6_:∀k,(∀y0 y1 y2,LeO (w0_.l0 k y0 y1 y2) (w0_.l0 (k+1) y0 y1 y2))
 | 0=>fun _ _ _ r h=>by simp [w0_.l0] at h
 | k+1=>by
  have ih0:=w0_.y6_ k
  ·intro y0 y1 y2;unfold w0_.l0
   repeat' with_reducible first|apply ih0|apply zi_.mono|apply LeO.refl|apply LeO.none|refine LeO.ite ?_ ?_|refine LeO.bind ?_ (fun _=>?_)
theorem w0_.mono:∀a0 a1 k,LeO (w0_.f k a0 a1) (w0_.f (k+1) a0 a1):=by
 intro a0 a1 k;have ih0:=w0_.y6_ k;unfold w0_.f
 repeat' with_reducible first|apply ih0|apply zi_.mono|apply LeO.refl|apply LeO.none|refine LeO.ite ?_ ?_|refine LeO.bind ?_ (fun _=>?_)
end Go.Proofs.YtahambloheoebaaGreatDoor.P
namespace Go.Proofs.YtahambloheoebaaGreatDoor.P
open Go.Proofs.YtahambloheoebaaGreatDoorX
open Go.RowKit Go.Proofs.YtahambloheoebaaGreatDoorW.PrintWords Go.Proofs.YtahambloheoebaaGreatDoorW.PrintLast Go.Proofs.YtahambloheoebaaGreatDoorW.PrintMore
attribute [local go_sem] ww_ wx_ max_two min_two wc_ wb_ wu_ wv_
attribute [local go_sem high] eqA80
mutual
def z8_.j0:Nat→ByteArray→Bool→Option (Bool)
 | 0,_,_=>none
 | k+1,x0,x22=>if x22=true then (some false) else (z8_.l0 k x0 0)
def z8_.l0:Nat→ByteArray→Int→Option (Bool)
 | 0,_,_=>none
 | k+1,x0,x3=>if x3<(x0.size:Int) then (if 0≤x3 then (if (bt x0 x3)≥97 then (if (bt x0 x3)≤122 then (z8_.l0 k x0 (wrap64 (x3+1))) else (if (bt x0 x3)≥48 then (if (bt x0 x3)≤57 then (z8_.l0 k x0 (wrap64 (x3+1))) else (if ((bt x0 x3)=45) then (z8_.l0 k x0 (wrap64 (x3+1))) else (some false))) else (if ((bt x0 x3)=45) then (z8_.l0 k x0 (wrap64 (x3+1))) else (some false)))) else (if (bt x0 x3)≥48 then (if (bt x0 x3)≤57 then (z8_.l0 k x0 (wrap64 (x3+1))) else (if ((bt x0 x3)=45) then (z8_.l0 k x0 (wrap64 (x3+1))) else (some false))) else (if ((bt x0 x3)=45) then (z8_.l0 k x0 (wrap64 (x3+1))) else (some false)))) else (none)) else (some true)
end
def z8_.f (k:Nat) (a0:ByteArray):Option (Bool):=if (a0.size:Int)<1 then (z8_.j0 k a0 true) else (if (a0.size:Int)>20 then (z8_.j0 k a0 true) else (if 0<(a0.size:Int) then (if (bt a0 0)<97 then (z8_.j0 k a0 true) else (z8_.j0 k a0 (decide ((bt a0 0)>122)))) else (none)))
theorem z8_.y6_:∀k,(∀y0 y1,LeO (z8_.j0 k y0 y1) (z8_.j0 (k+1) y0 y1))∧(∀y0 y1,LeO (z8_.l0 k y0 y1) (z8_.l0 (k+1) y0 y1))
 | 0=>⟨fun _ _ r h=>by simp [z8_.j0] at h,fun _ _ r h=>by simp [z8_.l0] at h⟩
 | k+1=>by
  obtain ⟨ih0,ih1⟩:=z8_.y6_ k;refine ⟨?_,?_⟩
  ·intro y0 y1;unfold z8_.j0
   repeat' with_reducible first|apply ih0|apply ih1|apply LeO.refl|apply LeO.none|refine LeO.ite ?_ ?_|refine LeO.bind ?_ (fun _=>?_)
  ·intro y0 y1;unfold z8_.l0
   repeat' with_reducible first|apply ih0|apply ih1|apply LeO.refl|apply LeO.none|refine LeO.ite ?_ ?_|refine LeO.bind ?_ (fun _=>?_)
theorem z8_.mono:∀a0 k,LeO (z8_.f k a0) (z8_.f (k+1) a0):=by
 intro a0 k;obtain ⟨ih0,ih1⟩:=z8_.y6_ k;unfold z8_.f
 repeat' with_reducible first|apply ih0|apply ih1|apply LeO.refl|apply LeO.none|refine LeO.ite ?_ ?_|refine LeO.bind ?_ (fun _=>?_)
theorem u394_3 {p:Prop} (h:p:=by
 go_wp2;go_ret;exact ⟨by first|rfl|(simp;done)|(simp [*];done),by repeat (first|exact x4_.refl _|apply x4_.step)⟩):p:=h
theorem u394_2 {p:Prop} (h:p:=by
 exact ⟨_,(true),mq_,H',⟨by first|omega|exact Nat.le_refl _⟩,by repeat (first|exact x4_.refl _|apply x4_.step)⟩):p:=h
theorem u394_0 {p:Prop} (h:p:=by
 have H':=a_ H;clear H;have p12:0≤(x3_2:Int):=md_
 have q12:x3_2<(a0.size:Int):=md_
 have hx12:=bt_at a0 x3_2;replace p12:=eq_true p12;replace q12:=eq_true q12;go_wp2;go_roundg k2
 case measure=>
  have:=HJ1.out
  have:=HK2.out
  omega
 case rel=>exact ⟨(wrap64 (x3_2+1)),mq_,H',⟨by have:=HJ1.out;have:=HK2.out;omega⟩,by repeat (first|exact x4_.refl _|apply x4_.step)⟩):p:=h
theorem u394_1 {p:Prop} (h:p:=by
 obtain rfl:=oi_ H;have p12:0≤(x3_2:Int):=md_
 have q12:x3_2<(a0.size:Int):=md_
 have hx12:=bt_at a0 x3_2;replace p12:=eq_true p12;replace q12:=eq_true q12;exact u394_3):p:=h
set_option maxHeartbeats 8000000 in
set_option maxRecDepth 100000 in
theorem z8_.calls (k:Nat) (a0:ByteArray) (r:Bool) (w:World) (h:z8_.f k a0=some r):
  Calls Tryz.prog 104 #[.string a0] w fun e w'=>e=.returned (.bool r)∧x4_ w w':=by
 have H:=h;unfold z8_.f at H
 clear h;have HC2:=a_ H;clear H;go_enter Tryz.func104,Tryz.ntmps104;go_upto_region 1 with (fail);go_cut [22] (fun v22 wc=>∃(kq:Nat) (x22_1:Bool),v22=.bool x22_1∧z0_ (z8_.j0 kq a0 x22_1=some r)∧z0_ (kq≤k)∧x4_ w wc)
 case first=>
  have H:=HC2.out;clear HC2;by_cases c3:(a0.size:Int)<1
  ·rw [if_pos c3] at H;have c3b0:=ct_ c3;have c3b1:decide (a0.size<1)=true:=decide_eq_true (by omega)
   clear c3;(first|rw [c3b0]|(simp only [i64_w,i32_w];rw [c3b0])|skip);have H':=a_ H;clear H;go_wp2;go_meet
   case rel=>exact u394_2
  ·rw [if_neg c3] at H;have c3b0:=cf_ c3;have c3b1:decide (a0.size<1)=false:=decide_eq_false (by omega)
   clear c3;(first|rw [c3b0]|(simp only [i64_w,i32_w];rw [c3b0])|skip);by_cases c4:(a0.size:Int)>20
   ·rw [if_pos c4] at H;have c4b0:=ct_ c4;have c4b1:decide (20<a0.size)=true:=decide_eq_true (by omega)
    clear c4;have H':=a_ H;clear H;go_wp2;go_meet
    case rel=>exact u394_2
   ·rw [if_neg c4] at H;have c4b0:=cf_ c4;have c4b1:decide (20<a0.size)=false:=decide_eq_false (by omega)
    clear c4;by_cases c5:0<(a0.size:Int)
    case neg=>
     rw [if_neg c5] at H;cases H
    rw [if_pos c5] at H;have c5b0:=ct_ c5;have c5b1:decide (0<a0.size)=true:=decide_eq_true (by omega)
    clear c5;by_cases c7:(bt a0 0)<97
    ·rw [if_pos c7] at H;have c7b0:=ct_ c7;clear c7;have H':=a_ H;clear H;have p6:0≤(0:Int):=(by omega)
     have q6:0<a0.size:=(by have:(0:Int)<(a0.size:Int):=md_;omega)
     have hx6:∀h:0<a0.size,((a0[0]'h).toNat:Int)=bt a0 0:=bt_at a0 0
     clear p6;have qi6:(0<(a0.size:Int))=True:=eq_true (md_)
     replace q6:=eq_true q6;go_wp2;go_meet
     case rel=>exact u394_2
    ·rw [if_neg c7] at H;have c7b0:=cf_ c7;clear c7;have H':=a_ H;clear H;have p6:0≤(0:Int):=(by omega)
     have q6:0<a0.size:=(by have:(0:Int)<(a0.size:Int):=md_;omega)
     have hx6:∀h:0<a0.size,((a0[0]'h).toNat:Int)=bt a0 0:=bt_at a0 0
     clear p6;have qi6:(0<(a0.size:Int))=True:=eq_true (md_)
     replace q6:=eq_true q6;have p8:0≤(0:Int):=(by omega)
     have q8:0<a0.size:=(by have:(0:Int)<(a0.size:Int):=md_;omega)
     have hx8:∀h:0<a0.size,((a0[0]'h).toNat:Int)=bt a0 0:=bt_at a0 0
     clear p8;have qi8:(0<(a0.size:Int))=True:=eq_true (md_)
     replace q8:=eq_true q8;go_wp2;go_meet
     case rel=>exact ⟨_,(decide ((bt a0 0)>122)),mq_,H',⟨by first|omega|exact Nat.le_refl _⟩,by repeat (first|exact x4_.refl _|apply x4_.step)⟩
 clear HC2;obtain ⟨kq,x22_1,rfl,HA,HJ1,⟨mc1,rfl⟩⟩:=hcut;obtain _|kj1:=kq
 ·exact absurd HA.out (by simp [z8_.j0])
 have H:=HA.out;clear HA;simp only [z8_.j0] at H;by_cases c9:x22_1=true
 ·subst c9;rw [if_pos rfl] at H;obtain rfl:=oi_ H;exact u394_3
 ·replace c9:=Bool.eq_false_iff.mpr c9;subst c9;rw [if_neg (show ¬(false=true) by decide)] at H;have H':=a_ H;clear H;go_wp2;go_loopg [3] kj1 (fun kq v3 w'=>∃(x3_2:Int),v3=.int .i64 x3_2∧z0_ (z8_.l0 kq a0 x3_2=some r)∧z0_ (kq≤kj1)∧x4_ w w')
  case atStart=>exact ⟨(0),mq_,H',⟨Nat.le_refl _⟩,by repeat (first|exact x4_.refl _|apply x4_.step)⟩
  clear H';(try clear c9);obtain ⟨x3_2,rfl,HA,HK2,⟨m2,rfl⟩⟩:=hrel;obtain _|k2:=gk
  ·exact absurd HA.out (by simp [z8_.l0])
  have H:=HA.out;clear HA;simp only [z8_.l0] at H;by_cases c10:x3_2<(a0.size:Int)
  ·rw [if_pos c10] at H;have c10b0:=ct_ c10;clear c10;by_cases c11:0≤x3_2
   case neg=>
    rw [if_neg c11] at H;cases H
   rw [if_pos c11] at H;have c11b0:=ct_ c11;clear c11;by_cases c13:(bt a0 x3_2)≥97
   ·rw [if_pos c13] at H;have c13b0:=ct_ c13;clear c13;by_cases c14:(bt a0 x3_2)≤122
    ·rw [if_pos c14] at H;have c14b0:=ct_ c14;clear c14;exact u394_0
    ·rw [if_neg c14] at H;have c14b0:=cf_ c14;clear c14;by_cases c15:(bt a0 x3_2)≥48
     ·rw [if_pos c15] at H;have c15b0:=ct_ c15;clear c15;by_cases c16:(bt a0 x3_2)≤57
      ·rw [if_pos c16] at H;have c16b0:=ct_ c16;clear c16;exact u394_0
      ·rw [if_neg c16] at H;have c16b0:=cf_ c16;clear c16;by_cases c17:((bt a0 x3_2)=45)
       ·rw [if_pos c17] at H;obtain ⟨c17b0,c17b1⟩:=bq_ c17;clear c17;exact u394_0
       ·rw [if_neg c17] at H;obtain ⟨c17b0,c17b1⟩:=bn_ c17;exact u394_1
     ·rw [if_neg c15] at H;have c15b0:=cf_ c15;clear c15;by_cases c18:((bt a0 x3_2)=45)
      ·rw [if_pos c18] at H;obtain ⟨c18b0,c18b1⟩:=bq_ c18;clear c18;exact u394_0
      ·rw [if_neg c18] at H;obtain ⟨c18b0,c18b1⟩:=bn_ c18;exact u394_1
   ·rw [if_neg c13] at H;have c13b0:=cf_ c13;clear c13;by_cases c19:(bt a0 x3_2)≥48
    ·rw [if_pos c19] at H;have c19b0:=ct_ c19;clear c19;by_cases c20:(bt a0 x3_2)≤57
     ·rw [if_pos c20] at H;have c20b0:=ct_ c20;clear c20;exact u394_0
     ·rw [if_neg c20] at H;have c20b0:=cf_ c20;clear c20;by_cases c21:((bt a0 x3_2)=45)
      ·rw [if_pos c21] at H;obtain ⟨c21b0,c21b1⟩:=bq_ c21;clear c21;exact u394_0
      ·rw [if_neg c21] at H;obtain ⟨c21b0,c21b1⟩:=bn_ c21;exact u394_1
    ·rw [if_neg c19] at H;have c19b0:=cf_ c19;clear c19;by_cases c22:((bt a0 x3_2)=45)
     ·rw [if_pos c22] at H;obtain ⟨c22b0,c22b1⟩:=bq_ c22;clear c22;exact u394_0
     ·rw [if_neg c22] at H;obtain ⟨c22b0,c22b1⟩:=bn_ c22;exact u394_1
  ·rw [if_neg c10] at H;have c10b0:=cf_ c10;clear c10;obtain rfl:=oi_ H;exact u394_3
def xi_.f (k:Nat) (a0:ByteArray):Option (Bool):=(z8_.f k a0).bind fun t322=>(if t322=true then (some (a0.toList != ([110,111,116]:List UInt8))) else (some false))
theorem xi_.mono:∀a0 k,LeO (xi_.f k a0) (xi_.f (k+1) a0):=by
 intro a0 k;unfold xi_.f
 repeat' with_reducible first|apply z8_.mono|apply LeO.refl|apply LeO.none|refine LeO.ite ?_ ?_|refine LeO.bind ?_ (fun _=>?_)
theorem u394_4 {p:Prop} (h:p:=by
 obtain rfl:=oi_ H;go_enter Tryz.func72,Tryz.ntmps72;go_wp2_with (first|((with_reducible refine zg_ (f:=104) rfl ?_);refine xf_ (some 4) rfl rfl Tryz.func104 (by kernel_rfl) rfl #[.string a0] rfl mw_ ?_;(with_reducible refine (z8_.calls k a0 true _ A2.out).mono ?_);rintro e w' ⟨rfl,⟨nd,rfl⟩⟩;refine ⟨_,rfl,?_⟩)|((with_reducible refine zg_ (f:=104) rfl ?_);refine xf_ (some 4) rfl rfl Tryz.func104 (by kernel_rfl) rfl #[.string a0] rfl mw_ ?_;(with_reducible refine (z8_.calls k a0 false _ A2.out).mono ?_);rintro e w' ⟨rfl,⟨nd,rfl⟩⟩;refine ⟨_,rfl,?_⟩));go_ret;exact ⟨by first|rfl|(simp;done)|(simp [*];done),by repeat (first|exact x4_.refl _|apply x4_.step)⟩):p:=h
set_option maxHeartbeats 8000000 in
set_option maxRecDepth 100000 in
theorem xi_.calls (k:Nat) (a0:ByteArray) (r:Bool) (w:World) (h:xi_.f k a0=some r):
  Calls Tryz.prog 72 #[.string a0] w fun e w'=>e=.returned (.bool r)∧x4_ w w':=by
 have H:=h;unfold xi_.f at H
 clear h;obtain ⟨t322,A2,H⟩:=ob_ H;by_cases c3:t322=true
 ·subst c3;rw [if_pos rfl] at H;exact u394_4
 ·replace c3:=Bool.eq_false_iff.mpr c3;subst c3;rw [if_neg (show ¬(false=true) by decide)] at H;exact u394_4
def wa_.f (a0_0:Int) (a0_1:Int) (a0_2:ByteArray):Option (Bool):=some (a0_0==0&&(a0_1==0&&(a0_2.toList==([]:List UInt8))))
set_option maxHeartbeats 8000000 in
set_option maxRecDepth 100000 in
theorem wa_.calls (a0_0:Int) (a0_1:Int) (a0_2:ByteArray) (r:Bool) (w:World) (h:wa_.f a0_0 a0_1 a0_2=some r):
  Calls Tryz.prog 122 #[.agg #[.int .i64 a0_0,.int .i64 a0_1,.string a0_2]] w fun e w'=>e=.returned (.bool r)∧Below w.heap.size w w':=by
 have hu80:=Tryz.underlying80;have HB:=a_ (Below.refl w.heap.size w);have H:(some (a0_0==0&&(a0_1==0&&(a0_2.toList==([]:List UInt8)))))=some r:=h
 clear h;obtain rfl:=oi_ H;go_enter Tryz.func122,Tryz.ntmps122;go_wp2_with (first|((with_reducible refine zl_ (N:=1) rfl ?_);refine bh_ 1 #[.int .i64 a0_0,.int .i64 a0_1,.string a0_2] 80 HB ?_;intro gb323 hg wx BK323 GE323 hb;replace HB:=ms_ HB hb;clear hb hg;replace hz323:=cz3 BK323));go_ret;exact ⟨me_,mb_ HB⟩
def xj_.f (k:Nat) (a0_0:Int) (a0_1:Int) (a0_2:ByteArray):Option (Bool):=if a0_0=0 then (if a0_2.toList=([]:List UInt8) then (some true) else (if a0_0=1 then (if a0_1=0 then ((z8_.f k a0_2).bind fun t325=>(some t325)) else (some false)) else (some false))) else (if a0_0=1 then (if a0_1=0 then ((z8_.f k a0_2).bind fun t326=>(some t326)) else (some false)) else (some false))
theorem xj_.mono:∀a0 a1 a2 k,LeO (xj_.f k a0 a1 a2) (xj_.f (k+1) a0 a1 a2):=by
 intro a0 a1 a2 k;unfold xj_.f
 repeat' with_reducible first|apply z8_.mono|apply LeO.refl|apply LeO.none|refine LeO.ite ?_ ?_|refine LeO.bind ?_ (fun _=>?_)
theorem u394_5 {p:Prop} (h:p:=by
 obtain rfl:=oi_ H;go_enter Tryz.func123,Tryz.ntmps123;go_wp2_with (first|((with_reducible refine zl_ (N:=1) rfl ?_);refine bh_ 1 #[.int .i64 a0_0,.int .i64 a0_1,.string a0_2] 80 HB ?_;intro gb324 hg wx BK324 GE324 hb;replace HB:=ms_ HB hb;clear hb hg;replace hz324:=cz3 BK324)|(go_at_call 104;(with_reducible refine (z8_.calls k a0_2 t325 _ A8.out).mono ?_);rintro e w' ⟨rfl,⟨nd,rfl⟩⟩)|(go_at_call 104;(with_reducible refine (z8_.calls k a0_2 t326 _ A17.out).mono ?_);rintro e w' ⟨rfl,⟨nd,rfl⟩⟩));go_ret;exact ⟨me_,mb_ HB⟩):p:=h
set_option maxHeartbeats 8000000 in
set_option maxRecDepth 100000 in
theorem xj_.calls (k:Nat) (a0_0:Int) (a0_1:Int) (a0_2:ByteArray) (r:Bool) (w:World) (h:xj_.f k a0_0 a0_1 a0_2=some r):
  Calls Tryz.prog 123 #[.agg #[.int .i64 a0_0,.int .i64 a0_1,.string a0_2]] w fun e w'=>e=.returned (.bool r)∧Below w.heap.size w w':=by
 have hu80:=Tryz.underlying80;have HB:=a_ (Below.refl w.heap.size w);have H:=h;unfold xj_.f at H
 clear h;by_cases c2:a0_0=0
 ·rw [if_pos c2] at H;obtain ⟨c2b0,c2b1⟩:=bq_ c2;clear c2;by_cases c3:a0_2.toList=([]:List UInt8)
  ·rw [if_pos c3] at H;obtain ⟨c3b0,c3b1⟩:=bq_ c3;clear c3;exact u394_5
  ·rw [if_neg c3] at H;obtain ⟨c3b0,c3b1⟩:=bn_ c3;by_cases c6:a0_0=1
   ·rw [if_pos c6] at H;obtain ⟨c6b0,c6b1⟩:=bq_ c6;clear c6;by_cases c7:a0_1=0
    ·rw [if_pos c7] at H;obtain ⟨c7b0,c7b1⟩:=bq_ c7;clear c7;obtain ⟨t325,A8,H⟩:=ob_ H;exact u394_5
    ·rw [if_neg c7] at H;obtain ⟨c7b0,c7b1⟩:=bn_ c7;exact u394_5
   ·rw [if_neg c6] at H;obtain ⟨c6b0,c6b1⟩:=bn_ c6;exact u394_5
 ·rw [if_neg c2] at H;obtain ⟨c2b0,c2b1⟩:=bn_ c2;by_cases c15:a0_0=1
  ·rw [if_pos c15] at H;obtain ⟨c15b0,c15b1⟩:=bq_ c15;clear c15;by_cases c16:a0_1=0
   ·rw [if_pos c16] at H;obtain ⟨c16b0,c16b1⟩:=bq_ c16;clear c16;obtain ⟨t326,A17,H⟩:=ob_ H;exact u394_5
   ·rw [if_neg c16] at H;obtain ⟨c16b0,c16b1⟩:=bn_ c16;exact u394_5
  ·rw [if_neg c15] at H;obtain ⟨c15b0,c15b1⟩:=bn_ c15;exact u394_5
end Go.Proofs.YtahambloheoebaaGreatDoor.P
namespace Go.Proofs.YtahambloheoebaaGreatDoor.P
open Go.Proofs.YtahambloheoebaaGreatDoorX
open Go.RowKit Go.Proofs.YtahambloheoebaaGreatDoorW.PrintWords Go.Proofs.YtahambloheoebaaGreatDoorW.PrintLast Go.Proofs.YtahambloheoebaaGreatDoorW.PrintMore
attribute [local go_sem] ww_ wx_ max_two min_two wc_ wb_ wu_ wv_
def xt_.f (k:Nat) (a0_0:Int) (a0_1:Int) (a0_2:ByteArray) (a0_3:Int) (a0_4:Int) (a0_5:ByteArray):Option (Bool):=if a0_0=0 then (if a0_1=0 then (if a0_2.toList=([]:List UInt8) then ((wa_.f a0_3 a0_4 a0_5).bind fun t328=>(some t328)) else (some false)) else (some false)) else (if a0_0=1 then (if a0_1=0 then (if a0_2.toList=([]:List UInt8) then ((xj_.f k a0_3 a0_4 a0_5).bind fun t329=>(some t329)) else (some false)) else (some false)) else (if a0_0=2 then (if a0_1=0 then ((z8_.f k a0_2).bind fun t330=>(if t330=true then ((wa_.f a0_3 a0_4 a0_5).bind fun t331=>(some t331)) else (some false))) else (some false)) else (if a0_0=3 then (if a0_1≥1 then (if a0_1≤6 then (if a0_2.toList=([]:List UInt8) then ((xj_.f k a0_3 a0_4 a0_5).bind fun t332=>(if t332=true then (some true) else ((z8_.f k a0_2).bind fun t333=>(if t333=true then ((wa_.f a0_3 a0_4 a0_5).bind fun t334=>(some t334)) else (some false))))) else ((z8_.f k a0_2).bind fun t335=>(if t335=true then ((wa_.f a0_3 a0_4 a0_5).bind fun t336=>(some t336)) else (some false)))) else (some false)) else (some false)) else (some false))))
theorem xt_.mono:∀a0 a1 a2 a3 a4 a5 k,LeO (xt_.f k a0 a1 a2 a3 a4 a5) (xt_.f (k+1) a0 a1 a2 a3 a4 a5):=by
 intro a0 a1 a2 a3 a4 a5 k;unfold xt_.f
 repeat' with_reducible first|apply z8_.mono|apply xj_.mono|apply LeO.refl|apply LeO.none|refine LeO.ite ?_ ?_|refine LeO.bind ?_ (fun _=>?_)
theorem u114_0 {p:Prop} (h:p:=by
 obtain rfl:=oi_ H;go_enter Tryz.func73,Tryz.ntmps73;go_wp2_with (first|((with_reducible refine zl_ (N:=1) rfl ?_);refine bh_ 1 #[.int .i64 a0_0,.int .i64 a0_1,.string a0_2,.int .i64 a0_3,.int .i64 a0_4,.string a0_5] 86 HB ?_;intro gb327 hg wx BK327 GE327 hb;replace HB:=ms_ HB hb;clear hb hg;replace hz327:=cz6 BK327)|(go_at_call 122;(with_reducible refine (wa_.calls a0_3 a0_4 a0_5 t328 _ A5.out).mono ?_);rintro e wx ⟨rfl,hb⟩;replace BK327:=mk_ BK327 hb;replace HB:=ms_ HB hb;(try clear hb))|(go_at_call 123;(with_reducible refine (xj_.calls k a0_3 a0_4 a0_5 t329 _ A16.out).mono ?_);rintro e wx ⟨rfl,hb⟩;replace BK327:=mk_ BK327 hb;replace HB:=ms_ HB hb;(try clear hb))|(go_at_call 104;(with_reducible refine (z8_.calls k a0_2 true _ A26.out).mono ?_);rintro e w' ⟨rfl,⟨nd,rfl⟩⟩)|(go_at_call 122;(with_reducible refine (wa_.calls a0_3 a0_4 a0_5 t331 _ A28.out).mono ?_);rintro e wx ⟨rfl,hb⟩;replace BK327:=mk_ BK327 hb;replace HB:=ms_ HB hb;(try clear hb))|(go_at_call 104;(with_reducible refine (z8_.calls k a0_2 false _ A26.out).mono ?_);rintro e w' ⟨rfl,⟨nd,rfl⟩⟩)|(go_at_call 123;(with_reducible refine (xj_.calls k a0_3 a0_4 a0_5 true _ A40.out).mono ?_);rintro e wx ⟨rfl,hb⟩;replace BK327:=mk_ BK327 hb;replace HB:=ms_ HB hb;(try clear hb))|(go_at_call 123;(with_reducible refine (xj_.calls k a0_3 a0_4 a0_5 false _ A40.out).mono ?_);rintro e wx ⟨rfl,hb⟩;replace BK327:=mk_ BK327 hb;replace HB:=ms_ HB hb;(try clear hb);replace hz327:=cz6 BK327)|(go_at_call 104;(with_reducible refine (z8_.calls k a0_2 true _ A45.out).mono ?_);rintro e w' ⟨rfl,⟨nd,rfl⟩⟩)|(go_at_call 122;(with_reducible refine (wa_.calls a0_3 a0_4 a0_5 t334 _ A47.out).mono ?_);rintro e wx ⟨rfl,hb⟩;replace BK327:=mk_ BK327 hb;replace HB:=ms_ HB hb;(try clear hb))|(go_at_call 104;(with_reducible refine (z8_.calls k a0_2 false _ A45.out).mono ?_);rintro e w' ⟨rfl,⟨nd,rfl⟩⟩)|(go_at_call 104;(with_reducible refine (z8_.calls k a0_2 true _ A57.out).mono ?_);rintro e w' ⟨rfl,⟨nd,rfl⟩⟩)|(go_at_call 122;(with_reducible refine (wa_.calls a0_3 a0_4 a0_5 t336 _ A59.out).mono ?_);rintro e wx ⟨rfl,hb⟩;replace BK327:=mk_ BK327 hb;replace HB:=ms_ HB hb;(try clear hb))|(go_at_call 104;(with_reducible refine (z8_.calls k a0_2 false _ A57.out).mono ?_);rintro e w' ⟨rfl,⟨nd,rfl⟩⟩));go_ret;exact ⟨me_,mb_ HB⟩):p:=h
set_option maxHeartbeats 8000000 in
set_option maxRecDepth 100000 in
theorem xt_.calls (k:Nat) (a0_0:Int) (a0_1:Int) (a0_2:ByteArray) (a0_3:Int) (a0_4:Int) (a0_5:ByteArray) (r:Bool) (w:World) (h:xt_.f k a0_0 a0_1 a0_2 a0_3 a0_4 a0_5=some r):
  Calls Tryz.prog 73 #[.agg #[.int .i64 a0_0,.int .i64 a0_1,.string a0_2,.int .i64 a0_3,.int .i64 a0_4,.string a0_5]] w fun e w'=>e=.returned (.bool r)∧Below w.heap.size w w':=by
 have hu86:=Tryz.underlying86;have hu80:=Tryz.underlying80;have HB:=a_ (Below.refl w.heap.size w);have H:=h;unfold xt_.f at H
 clear h;by_cases c2:a0_0=0
 ·rw [if_pos c2] at H;obtain ⟨c2b0,c2b1⟩:=bq_ c2;clear c2;by_cases c3:a0_1=0
  ·rw [if_pos c3] at H;obtain ⟨c3b0,c3b1⟩:=bq_ c3;clear c3;by_cases c4:a0_2.toList=([]:List UInt8)
   ·rw [if_pos c4] at H;obtain ⟨c4b0,c4b1⟩:=bq_ c4;clear c4;obtain ⟨t328,A5,H⟩:=ob_ H;exact u114_0
   ·rw [if_neg c4] at H;obtain ⟨c4b0,c4b1⟩:=bn_ c4;exact u114_0
  ·rw [if_neg c3] at H;obtain ⟨c3b0,c3b1⟩:=bn_ c3;exact u114_0
 ·rw [if_neg c2] at H;obtain ⟨c2b0,c2b1⟩:=bn_ c2;by_cases c13:a0_0=1
  ·rw [if_pos c13] at H;obtain ⟨c13b0,c13b1⟩:=bq_ c13;clear c13;by_cases c14:a0_1=0
   ·rw [if_pos c14] at H;obtain ⟨c14b0,c14b1⟩:=bq_ c14;clear c14;by_cases c15:a0_2.toList=([]:List UInt8)
    ·rw [if_pos c15] at H;obtain ⟨c15b0,c15b1⟩:=bq_ c15;clear c15;obtain ⟨t329,A16,H⟩:=ob_ H;exact u114_0
    ·rw [if_neg c15] at H;obtain ⟨c15b0,c15b1⟩:=bn_ c15;exact u114_0
   ·rw [if_neg c14] at H;obtain ⟨c14b0,c14b1⟩:=bn_ c14;exact u114_0
  ·rw [if_neg c13] at H;obtain ⟨c13b0,c13b1⟩:=bn_ c13;by_cases c24:a0_0=2
   ·rw [if_pos c24] at H;obtain ⟨c24b0,c24b1⟩:=bq_ c24;clear c24;by_cases c25:a0_1=0
    ·rw [if_pos c25] at H;obtain ⟨c25b0,c25b1⟩:=bq_ c25;clear c25;obtain ⟨t330,A26,H⟩:=ob_ H;by_cases c27:t330=true
     ·subst c27;rw [if_pos rfl] at H;obtain ⟨t331,A28,H⟩:=ob_ H;exact u114_0
     ·replace c27:=Bool.eq_false_iff.mpr c27;subst c27;rw [if_neg (show ¬(false=true) by decide)] at H;exact u114_0
    ·rw [if_neg c25] at H;obtain ⟨c25b0,c25b1⟩:=bn_ c25;exact u114_0
   ·rw [if_neg c24] at H;obtain ⟨c24b0,c24b1⟩:=bn_ c24;by_cases c36:a0_0=3
    ·rw [if_pos c36] at H;obtain ⟨c36b0,c36b1⟩:=bq_ c36;clear c36;by_cases c37:a0_1≥1
     ·rw [if_pos c37] at H;have c37b0:=ct_ c37;clear c37;by_cases c38:a0_1≤6
      ·rw [if_pos c38] at H;have c38b0:=ct_ c38;clear c38;by_cases c39:a0_2.toList=([]:List UInt8)
       ·rw [if_pos c39] at H;obtain ⟨c39b0,c39b1⟩:=bq_ c39;clear c39;obtain ⟨t332,A40,H⟩:=ob_ H;by_cases c41:t332=true
        ·subst c41;rw [if_pos rfl] at H;exact u114_0
        ·replace c41:=Bool.eq_false_iff.mpr c41;subst c41;rw [if_neg (show ¬(false=true) by decide)] at H;obtain ⟨t333,A45,H⟩:=ob_ H;by_cases c46:t333=true
         ·subst c46;rw [if_pos rfl] at H;obtain ⟨t334,A47,H⟩:=ob_ H;exact u114_0
         ·replace c46:=Bool.eq_false_iff.mpr c46;subst c46;rw [if_neg (show ¬(false=true) by decide)] at H;exact u114_0
       ·rw [if_neg c39] at H;obtain ⟨c39b0,c39b1⟩:=bn_ c39;obtain ⟨t335,A57,H⟩:=ob_ H;by_cases c58:t335=true
        ·subst c58;rw [if_pos rfl] at H;obtain ⟨t336,A59,H⟩:=ob_ H;exact u114_0
        ·replace c58:=Bool.eq_false_iff.mpr c58;subst c58;rw [if_neg (show ¬(false=true) by decide)] at H;exact u114_0
      ·rw [if_neg c38] at H;have c38b0:=cf_ c38;clear c38;exact u114_0
     ·rw [if_neg c37] at H;have c37b0:=cf_ c37;clear c37;exact u114_0
    ·rw [if_neg c36] at H;obtain ⟨c36b0,c36b1⟩:=bn_ c36;exact u114_0
mutual
def zo_.j0:Nat→Bool→Bool→ByteArray→List (S86)→Option (Bool)
 | 0,_,_,_,_=>none
 | k+1,x14,x338000,x338001,x338002=>if x14=true then (some false) else (zo_.l0 k x338002 (x338002.length:Int) 0)
def zo_.l0:Nat→List (S86)→Int→Int→Option (Bool)
 | 0,_,_,_=>none
 | k+1,x16,x17,x18=>if x18<x17 then (if 0≤x18 then (if x18<(x16.length:Int) then ((xt_.f k ((z6_ x16 x18).f0) ((z6_ x16 x18).f1) ((z6_ x16 x18).f2) ((z6_ x16 x18).f3.f0) ((z6_ x16 x18).f3.f1) ((z6_ x16 x18).f3.f2)).bind fun t341=>(if t341=true then (zo_.l0 k x16 x17 (wrap64 (x18+1))) else (some false))) else (none)) else (none)) else (some true)
end
def zo_.f (k:Nat) (a0_0:Bool) (a0_1:ByteArray) (l0_2:List (S86)):Option (Bool):=(xi_.f k a0_1).bind fun t338=>(if t338=true then (zo_.j0 k (decide ((l0_2.length:Int)>6)) a0_0 a0_1 l0_2) else (zo_.j0 k true a0_0 a0_1 l0_2))
theorem zo_.y6_:∀k,(∀y0 y1 y2 y3,LeO (zo_.j0 k y0 y1 y2 y3) (zo_.j0 (k+1) y0 y1 y2 y3))∧(∀y0 y1 y2,LeO (zo_.l0 k y0 y1 y2) (zo_.l0 (k+1) y0 y1 y2))
 | 0=>⟨fun _ _ _ _ r h=>by simp [zo_.j0] at h,fun _ _ _ r h=>by simp [zo_.l0] at h⟩
 | k+1=>by
  obtain ⟨ih0,ih1⟩:=zo_.y6_ k;refine ⟨?_,?_⟩
  ·intro y0 y1 y2 y3;unfold zo_.j0
   repeat' with_reducible first|apply ih0|apply ih1|apply xi_.mono|apply xt_.mono|apply LeO.refl|apply LeO.none|refine LeO.ite ?_ ?_|refine LeO.bind ?_ (fun _=>?_)
  ·intro y0 y1 y2;unfold zo_.l0
   repeat' with_reducible first|apply ih0|apply ih1|apply xi_.mono|apply xt_.mono|apply LeO.refl|apply LeO.none|refine LeO.ite ?_ ?_|refine LeO.bind ?_ (fun _=>?_)
theorem zo_.mono:∀a0 a1 a2 k,LeO (zo_.f k a0 a1 a2) (zo_.f (k+1) a0 a1 a2):=by
 intro a0 a1 a2 k;obtain ⟨ih0,ih1⟩:=zo_.y6_ k;unfold zo_.f
 repeat' with_reducible first|apply ih0|apply ih1|apply xi_.mono|apply xt_.mono|apply LeO.refl|apply LeO.none|refine LeO.ite ?_ ?_|refine LeO.bind ?_ (fun _=>?_)
set_option maxHeartbeats 8000000 in
set_option maxRecDepth 100000 in
theorem zo_.calls (k:Nat) (a0_0:Bool) (a0_1:ByteArray) (A0_2:Option Addr) (c0_2:Nat) (l0_2:List (S86)) (r:Bool) (w:World) (hr0_2:Kd.C k86 w A0_2 l0_2.length l0_2) (hc0_2:l0_2.length≤c0_2) (h:zo_.f k a0_0 a0_1 l0_2=some r):
  Calls Tryz.prog 32 #[.agg #[.bool a0_0,.string a0_1,.slice A0_2 l0_2.length c0_2]] w fun e w'=>e=.returned (.bool r)∧Below w.heap.size w w':=by
 have hu42:=Tryz.underlying42;have hu86:=Tryz.underlying86;have HR0_2:=a_ hr0_2;have HC0_2:=a_ hc0_2;clear hr0_2 hc0_2;have HB:=a_ (Below.refl w.heap.size w);have H:=h;unfold zo_.f at H
 clear h;have HC2:=a_ H;clear H;go_enter Tryz.func32,Tryz.ntmps32;go_upto_region 1 with (first|((with_reducible refine zl_ (N:=1) rfl ?_);(try (refine gate_guard (by rfl) ?_;dsimp only));refine bh_ 1 #[.bool a0_0,.string a0_1,.slice A0_2 l0_2.length c0_2] 42 HB ?_;intro gb337 hg w3 BK337 GE337 hb;replace HB:=ms_ HB hb;clear hb hg));(try simp only [Act.put,List.setIfInBounds_toArray,List.set_cons_zero,List.set_cons_succ]);go_cut [14] (fun v14 wc=>∃(kq:Nat) (x14_1:Bool),v14=.bool x14_1∧z0_ (zo_.j0 kq x14_1 a0_0 a0_1 l0_2=some r)∧z0_ (kq≤k)∧z0_ (wc.heap[gb337]?=some (.cells #[.bool a0_0,.string a0_1,(.slice A0_2 l0_2.length c0_2)] 42 (0,0)))∧z0_ (Below w.heap.size w wc))
 case first=>
  have H:=HC2.out;clear HC2;obtain ⟨t338,A4,H⟩:=ob_ H;by_cases c5:t338=true
  ·subst c5;rw [if_pos rfl] at H;have H':=a_ H;clear H;replace hz337:=cz3 BK337;go_wp2_with (first|((with_reducible refine zg_ (f:=72) rfl ?_);refine xf_ (some 7) rfl rfl Tryz.func72 (by kernel_rfl) rfl #[.string a0_1] rfl mw_ ?_;(with_reducible refine (xi_.calls k a0_1 true _ A4.out).mono ?_);rintro e w' ⟨rfl,⟨nd,rfl⟩⟩;refine ⟨_,rfl,?_⟩));go_meet
   case rel=>exact ⟨_,(decide ((l0_2.length:Int)>6)),mq_,H',⟨by first|omega|exact Nat.le_refl _⟩,⟨mc_ BK337⟩,⟨mb_ HB⟩⟩
  ·replace c5:=Bool.eq_false_iff.mpr c5;subst c5;rw [if_neg (show ¬(false=true) by decide)] at H;have H':=a_ H;clear H;replace hz337:=cz3 BK337;go_wp2_with (first|((with_reducible refine zg_ (f:=72) rfl ?_);refine xf_ (some 7) rfl rfl Tryz.func72 (by kernel_rfl) rfl #[.string a0_1] rfl mw_ ?_;(with_reducible refine (xi_.calls k a0_1 false _ A4.out).mono ?_);rintro e w' ⟨rfl,⟨nd,rfl⟩⟩;refine ⟨_,rfl,?_⟩));go_meet
   case rel=>exact ⟨_,(true),mq_,H',⟨by first|omega|exact Nat.le_refl _⟩,⟨mc_ BK337⟩,⟨mb_ HB⟩⟩
 clear HC2;obtain ⟨kq,x14_1,rfl,HA,HJ1,BK337,HB⟩:=hcut;obtain _|kj1:=kq
 ·exact absurd HA.out (by simp [zo_.j0])
 have H:=HA.out;clear HA;simp only [zo_.j0] at H;by_cases c8:x14_1=true
 ·subst c8;rw [if_pos rfl] at H;obtain rfl:=oi_ H;go_wp2;go_ret;exact ⟨me_,mb_ HB⟩
 ·replace c8:=Bool.eq_false_iff.mpr c8;subst c8;rw [if_neg (show ¬(false=true) by decide)] at H;have H':=a_ H;clear H;replace hz337:=cz3 BK337;go_wp2;go_loopg [18] kj1 (fun kq v18 w'=>∃(x18_2:Int),v18=.int .i64 x18_2∧z0_ (zo_.l0 kq l0_2 (l0_2.length:Int) x18_2=some r)∧z0_ (kq≤kj1)∧z0_ (w'.heap[gb337]?=some (.cells #[.bool a0_0,.string a0_1,(.slice A0_2 l0_2.length c0_2)] 42 (0,0)))∧z0_ (Below w.heap.size w w'))
  case atStart=>exact ⟨(0),mq_,H',⟨Nat.le_refl _⟩,⟨mc_ BK337⟩,⟨mb_ HB⟩⟩
  clear H';(try clear c8);obtain ⟨x18_2,rfl,HA,HK2,BK337,HB⟩:=hrel;obtain _|k2:=gk
  ·exact absurd HA.out (by simp [zo_.l0])
  have H:=HA.out;clear HA;simp only [zo_.l0] at H;by_cases c10:x18_2<(l0_2.length:Int)
  ·rw [if_pos c10] at H;have c10b0:=ct_ c10;clear c10;by_cases c11:0≤x18_2
   case neg=>
    rw [if_neg c11] at H;cases H
   rw [if_pos c11] at H;have c11b0:=ct_ c11;clear c11;by_cases c12:x18_2<(l0_2.length:Int)
   case neg=>
    rw [if_neg c12] at H;cases H
   rw [if_pos c12] at H;have c12b0:=ct_ c12;clear c12;obtain ⟨t341,A13,H⟩:=ob_ H;by_cases c14:t341=true
   ·subst c14;rw [if_pos rfl] at H;have H':=a_ H;clear H;have p339:0≤(x18_2:Int):=md_
    have q339:x18_2<(l0_2.length:Int):=md_
    obtain ⟨ad339,e339,hx339_0,hx339_1,hx339_2,hx339_3,hx339_4,hx339_5⟩:=at_T86 HR0_2.out x18_2 p339 q339;cases e339;replace hx339_0:=mx_ HB hx339_0;replace hx339_1:=mx_ HB hx339_1;replace hx339_2:=mx_ HB hx339_2;replace hx339_3:=mx_ HB hx339_3;replace hx339_4:=mx_ HB hx339_4;replace hx339_5:=mx_ HB hx339_5;replace p339:=eq_true p339;replace q339:=eq_true q339;go_wp2_with (first|((with_reducible refine zl_ (N:=4) rfl ?_);(try (refine gate_guard (by rfl) ?_;dsimp only));refine bh_ 4 #[.int .i64 0,.int .i64 0,.string (⟨#[]⟩:ByteArray),.int .i64 0,.int .i64 0,.string (⟨#[]⟩:ByteArray)] 86 HB ?_;intro gb340 hg wx BK340 GE340 hb;obtain ⟨NB337_340,NB340_337⟩:=mn_ BK337 hg;replace BK337:=mk_ BK337 hb;replace HB:=ms_ HB hb;clear hb hg;have nNB340_337:=NB340_337.out;have nNB337_340:=NB337_340.out;replace hz340:=cz6 BK340)|((with_reducible refine zg_ (f:=73) rfl ?_);refine xf_ (some 23) rfl rfl Tryz.func73 (by kernel_rfl) rfl #[.agg #[.int .i64 ((z6_ l0_2 x18_2).f0),.int .i64 ((z6_ l0_2 x18_2).f1),.string ((z6_ l0_2 x18_2).f2),.int .i64 ((z6_ l0_2 x18_2).f3.f0),.int .i64 ((z6_ l0_2 x18_2).f3.f1),.string ((z6_ l0_2 x18_2).f3.f2)]] rfl mw_ ?_;(with_reducible refine (xt_.calls k2 ((z6_ l0_2 x18_2).f0) ((z6_ l0_2 x18_2).f1) ((z6_ l0_2 x18_2).f2) ((z6_ l0_2 x18_2).f3.f0) ((z6_ l0_2 x18_2).f3.f1) ((z6_ l0_2 x18_2).f3.f2) true _ A13.out).mono ?_);rintro e wx ⟨rfl,hb⟩;refine ⟨_,rfl,?_⟩;replace BK337:=mk_ BK337 hb;replace BK340:=a_ (zd_ (g:=gb340) (o:=.cells #[.int .i64 ((z6_ l0_2 x18_2).f0),.int .i64 ((z6_ l0_2 x18_2).f1),.string ((z6_ l0_2 x18_2).f2),.int .i64 ((z6_ l0_2 x18_2).f3.f0),.int .i64 ((z6_ l0_2 x18_2).f3.f1),.string ((z6_ l0_2 x18_2).f3.f2)] 86 (0,0)) (mp_ BK340) hb);replace HB:=ms_ HB hb;(try clear hb)));go_roundg k2
    case measure=>
     have:=HJ1.out
     have:=HK2.out
     omega
    case rel=>exact ⟨(wrap64 (x18_2+1)),mq_,H',⟨by have:=HJ1.out;have:=HK2.out;omega⟩,⟨mc_ BK337⟩,⟨mb_ HB⟩⟩
   ·replace c14:=Bool.eq_false_iff.mpr c14;subst c14;rw [if_neg (show ¬(false=true) by decide)] at H;obtain rfl:=oi_ H;have p339:0≤(x18_2:Int):=md_
    have q339:x18_2<(l0_2.length:Int):=md_
    obtain ⟨ad339,e339,hx339_0,hx339_1,hx339_2,hx339_3,hx339_4,hx339_5⟩:=at_T86 HR0_2.out x18_2 p339 q339;cases e339;replace hx339_0:=mx_ HB hx339_0;replace hx339_1:=mx_ HB hx339_1;replace hx339_2:=mx_ HB hx339_2;replace hx339_3:=mx_ HB hx339_3;replace hx339_4:=mx_ HB hx339_4;replace hx339_5:=mx_ HB hx339_5;replace p339:=eq_true p339;replace q339:=eq_true q339;go_wp2_with (first|((with_reducible refine zl_ (N:=4) rfl ?_);(try (refine gate_guard (by rfl) ?_;dsimp only));refine bh_ 4 #[.int .i64 0,.int .i64 0,.string (⟨#[]⟩:ByteArray),.int .i64 0,.int .i64 0,.string (⟨#[]⟩:ByteArray)] 86 HB ?_;intro gb340 hg wx BK340 GE340 hb;obtain ⟨NB337_340,NB340_337⟩:=mn_ BK337 hg;replace BK337:=mk_ BK337 hb;replace HB:=ms_ HB hb;clear hb hg;have nNB340_337:=NB340_337.out;have nNB337_340:=NB337_340.out;replace hz340:=cz6 BK340)|((with_reducible refine zg_ (f:=73) rfl ?_);refine xf_ (some 23) rfl rfl Tryz.func73 (by kernel_rfl) rfl #[.agg #[.int .i64 ((z6_ l0_2 x18_2).f0),.int .i64 ((z6_ l0_2 x18_2).f1),.string ((z6_ l0_2 x18_2).f2),.int .i64 ((z6_ l0_2 x18_2).f3.f0),.int .i64 ((z6_ l0_2 x18_2).f3.f1),.string ((z6_ l0_2 x18_2).f3.f2)]] rfl mw_ ?_;(with_reducible refine (xt_.calls k2 ((z6_ l0_2 x18_2).f0) ((z6_ l0_2 x18_2).f1) ((z6_ l0_2 x18_2).f2) ((z6_ l0_2 x18_2).f3.f0) ((z6_ l0_2 x18_2).f3.f1) ((z6_ l0_2 x18_2).f3.f2) false _ A13.out).mono ?_);rintro e wx ⟨rfl,hb⟩;refine ⟨_,rfl,?_⟩;replace BK337:=mk_ BK337 hb;replace BK340:=a_ (zd_ (g:=gb340) (o:=.cells #[.int .i64 ((z6_ l0_2 x18_2).f0),.int .i64 ((z6_ l0_2 x18_2).f1),.string ((z6_ l0_2 x18_2).f2),.int .i64 ((z6_ l0_2 x18_2).f3.f0),.int .i64 ((z6_ l0_2 x18_2).f3.f1),.string ((z6_ l0_2 x18_2).f3.f2)] 86 (0,0)) (mp_ BK340) hb);replace HB:=ms_ HB hb;(try clear hb)));go_ret;exact ⟨me_,mb_ HB⟩
  ·rw [if_neg c10] at H;have c10b0:=cf_ c10;clear c10;obtain rfl:=oi_ H;go_wp2;go_ret;exact ⟨me_,mb_ HB⟩
end Go.Proofs.YtahambloheoebaaGreatDoor.P
namespace Go.Proofs.YtahambloheoebaaGreatDoor.P
open Go.Proofs.YtahambloheoebaaGreatDoorX
open Go.RowKit Go.Proofs.YtahambloheoebaaGreatDoorW.PrintWords Go.Proofs.YtahambloheoebaaGreatDoorW.PrintLast Go.Proofs.YtahambloheoebaaGreatDoorW.PrintMore
attribute [local go_sem] ww_ wx_ max_two min_two wc_ wb_ wu_ wv_
def yg_.l0:Nat→Int→ByteArray→Int→Bool→ByteArray→List (S86)→Option (Int)
 | 0,_,_,_,_,_,_=>none
 | k+1,x1,x2,x7,x343000,x343001,x343002=>if x7<x1 then (if 0≤x7 then (if x7<(x343002.length:Int) then (if ((z6_ x343002 x7).f0)=2 then (if ((z6_ x343002 x7).f2).toList=x2.toList then (some x7) else (yg_.l0 k x1 x2 (wrap64 (x7+1)) x343000 x343001 x343002)) else (yg_.l0 k x1 x2 (wrap64 (x7+1)) x343000 x343001 x343002)) else (none)) else (none)) else (some (-1))
def yg_.f (k:Nat) (a0_0:Bool) (a0_1:ByteArray) (l0_2:List (S86)) (a1:Int) (a2:ByteArray):Option (Int):=yg_.l0 k a1 a2 0 a0_0 a0_1 l0_2
theorem yg_.y6_:∀k,(∀y0 y1 y2 y3 y4 y5,LeO (yg_.l0 k y0 y1 y2 y3 y4 y5) (yg_.l0 (k+1) y0 y1 y2 y3 y4 y5))
 | 0=>fun _ _ _ _ _ _ r h=>by simp [yg_.l0] at h
 | k+1=>by
  have ih0:=yg_.y6_ k
  ·intro y0 y1 y2 y3 y4 y5;unfold yg_.l0
   repeat' with_reducible first|apply ih0|apply LeO.refl|apply LeO.none|refine LeO.ite ?_ ?_|refine LeO.bind ?_ (fun _=>?_)
theorem yg_.mono:∀a0 a1 a2 a3 a4 k,LeO (yg_.f k a0 a1 a2 a3 a4) (yg_.f (k+1) a0 a1 a2 a3 a4):=by
 intro a0 a1 a2 a3 a4 k;have ih0:=yg_.y6_ k;unfold yg_.f
 repeat' with_reducible first|apply ih0|apply LeO.refl|apply LeO.none|refine LeO.ite ?_ ?_|refine LeO.bind ?_ (fun _=>?_)
theorem u0c5_0 {p:Prop} (h:p:=by
 go_wp2;go_roundg k1
 case measure=>
  have:=HK1.out
  omega
 case rel=>exact ⟨(wrap64 (x7_1+1)),mq_,H',⟨by have:=HK1.out;omega⟩,⟨mc_ BK342⟩,⟨mb_ HB⟩⟩):p:=h
set_option maxHeartbeats 8000000 in
set_option maxRecDepth 100000 in
theorem yg_.calls (k:Nat) (a0_0:Bool) (a0_1:ByteArray) (A0_2:Option Addr) (c0_2:Nat) (l0_2:List (S86)) (a1:Int) (a2:ByteArray) (r:Int) (w:World) (hr0_2:Kd.C k86 w A0_2 l0_2.length l0_2) (hc0_2:l0_2.length≤c0_2) (h:yg_.f k a0_0 a0_1 l0_2 a1 a2=some r):
  Calls Tryz.prog 33 #[.agg #[.bool a0_0,.string a0_1,.slice A0_2 l0_2.length c0_2],.int .i64 a1,.string a2] w fun e w'=>e=.returned (.int .i64 r)∧Below w.heap.size w w':=by
 have hu42:=Tryz.underlying42;have HR0_2:=a_ hr0_2;have HC0_2:=a_ hc0_2;clear hr0_2 hc0_2;have HB:=a_ (Below.refl w.heap.size w);have H:(yg_.l0 k a1 a2 0 a0_0 a0_1 l0_2)=some r:=h
 clear h;have H':=a_ H;clear H;go_enter Tryz.func33,Tryz.ntmps33;go_wp2_with (first|((with_reducible refine zl_ (N:=3) rfl ?_);refine bh_ 3 #[.bool a0_0,.string a0_1,.slice A0_2 l0_2.length c0_2] 42 HB ?_;intro gb342 hg wx BK342 GE342 hb;replace HB:=ms_ HB hb;clear hb hg));go_loopg [7] k (fun kq v7 w'=>∃(x7_1:Int),v7=.int .i64 x7_1∧z0_ (yg_.l0 kq a1 a2 x7_1 a0_0 a0_1 l0_2=some r)∧z0_ (kq≤k)∧z0_ (w'.heap[gb342]?=some (.cells #[.bool a0_0,.string a0_1,(.slice A0_2 l0_2.length c0_2)] 42 (0,0)))∧z0_ (Below w.heap.size w w'))
 case atStart=>exact ⟨(0),mq_,H',⟨Nat.le_refl _⟩,⟨mc_ BK342⟩,⟨mb_ HB⟩⟩
 clear H';obtain ⟨x7_1,rfl,HA,HK1,BK342,HB⟩:=hrel;obtain _|k1:=gk
 ·exact absurd HA.out (by simp [yg_.l0])
 have H:=HA.out;clear HA;simp only [yg_.l0] at H;by_cases c5:x7_1<a1
 ·rw [if_pos c5] at H;have c5b0:=ct_ c5;clear c5;by_cases c6:0≤x7_1
  case neg=>
   rw [if_neg c6] at H;cases H
  rw [if_pos c6] at H;have c6b0:=ct_ c6;clear c6;by_cases c7:x7_1<(l0_2.length:Int)
  case neg=>
   rw [if_neg c7] at H;cases H
  rw [if_pos c7] at H;have c7b0:=ct_ c7;clear c7;by_cases c8:((z6_ l0_2 x7_1).f0)=2
  ·rw [if_pos c8] at H;obtain ⟨c8b0,c8b1⟩:=bq_ c8;clear c8;by_cases c9:((z6_ l0_2 x7_1).f2).toList=a2.toList
   ·rw [if_pos c9] at H;obtain ⟨c9b0,c9b1⟩:=bq_ c9;clear c9;obtain rfl:=oi_ H;replace hz342:=cz3 BK342;have p343:0≤(x7_1:Int):=md_
    have q343:x7_1<(l0_2.length:Int):=md_
    obtain ⟨ad343,e343,hx343_0,hx343_1,hx343_2,hx343_3,hx343_4,hx343_5⟩:=at_T86 HR0_2.out x7_1 p343 q343;cases e343;replace hx343_0:=mx_ HB hx343_0;replace hx343_1:=mx_ HB hx343_1;replace hx343_2:=mx_ HB hx343_2;replace hx343_3:=mx_ HB hx343_3;replace hx343_4:=mx_ HB hx343_4;replace hx343_5:=mx_ HB hx343_5;replace p343:=eq_true p343;replace q343:=eq_true q343;have p344:0≤(x7_1:Int):=md_
    have q344:x7_1<(l0_2.length:Int):=md_
    obtain ⟨ad344,e344,hx344_0,hx344_1,hx344_2,hx344_3,hx344_4,hx344_5⟩:=at_T86 HR0_2.out x7_1 p344 q344;obtain rfl:ad343=ad344:=(by injection e344);replace hx344_0:=mx_ HB hx344_0;replace hx344_1:=mx_ HB hx344_1;replace hx344_2:=mx_ HB hx344_2;replace hx344_3:=mx_ HB hx344_3;replace hx344_4:=mx_ HB hx344_4;replace hx344_5:=mx_ HB hx344_5;replace p344:=eq_true p344;replace q344:=eq_true q344;go_wp2;go_ret;exact ⟨me_,mb_ HB⟩
   ·rw [if_neg c9] at H;obtain ⟨c9b0,c9b1⟩:=bn_ c9;have H':=a_ H;clear H;replace hz342:=cz3 BK342;have p343:0≤(x7_1:Int):=md_
    have q343:x7_1<(l0_2.length:Int):=md_
    obtain ⟨ad343,e343,hx343_0,hx343_1,hx343_2,hx343_3,hx343_4,hx343_5⟩:=at_T86 HR0_2.out x7_1 p343 q343;cases e343;replace hx343_0:=mx_ HB hx343_0;replace hx343_1:=mx_ HB hx343_1;replace hx343_2:=mx_ HB hx343_2;replace hx343_3:=mx_ HB hx343_3;replace hx343_4:=mx_ HB hx343_4;replace hx343_5:=mx_ HB hx343_5;replace p343:=eq_true p343;replace q343:=eq_true q343;have p344:0≤(x7_1:Int):=md_
    have q344:x7_1<(l0_2.length:Int):=md_
    obtain ⟨ad344,e344,hx344_0,hx344_1,hx344_2,hx344_3,hx344_4,hx344_5⟩:=at_T86 HR0_2.out x7_1 p344 q344;obtain rfl:ad343=ad344:=(by injection e344);replace hx344_0:=mx_ HB hx344_0;replace hx344_1:=mx_ HB hx344_1;replace hx344_2:=mx_ HB hx344_2;replace hx344_3:=mx_ HB hx344_3;replace hx344_4:=mx_ HB hx344_4;replace hx344_5:=mx_ HB hx344_5;replace p344:=eq_true p344;replace q344:=eq_true q344;exact u0c5_0
  ·rw [if_neg c8] at H;obtain ⟨c8b0,c8b1⟩:=bn_ c8;have H':=a_ H;clear H;replace hz342:=cz3 BK342;have p343:0≤(x7_1:Int):=md_
   have q343:x7_1<(l0_2.length:Int):=md_
   obtain ⟨ad343,e343,hx343_0,hx343_1,hx343_2,hx343_3,hx343_4,hx343_5⟩:=at_T86 HR0_2.out x7_1 p343 q343;cases e343;replace hx343_0:=mx_ HB hx343_0;replace hx343_1:=mx_ HB hx343_1;replace hx343_2:=mx_ HB hx343_2;replace hx343_3:=mx_ HB hx343_3;replace hx343_4:=mx_ HB hx343_4;replace hx343_5:=mx_ HB hx343_5;replace p343:=eq_true p343;replace q343:=eq_true q343;exact u0c5_0
 ·rw [if_neg c5] at H;have c5b0:=cf_ c5;clear c5;obtain rfl:=oi_ H;go_wp2;go_ret;exact ⟨me_,mb_ HB⟩
mutual
def zy_.l0:Nat→List (S86)→Int→Int→Bool→ByteArray→List (S86)→ByteArray→Int→List (S82)→Option (ByteArray×Int×(List (S82)))
 | 0,_,_,_,_,_,_,_,_,_=>none
 | k+1,x18,x19,x20,x346000,x346001,x346002,x349000,x349001,x349002=>if x20<x19 then (if 0≤x20 then (if x20<(x18.length:Int) then (if ((z6_ x18 x20).f0)=3 then (zy_.j1 k x20 x18 x19 x20 x346000 x346001 x346002 x349000 x349001 x349002 ((z6_ x18 x20).f0) ((z6_ x18 x20).f1) ((z6_ x18 x20).f2) ((z6_ x18 x20).f3.f0) ((z6_ x18 x20).f3.f1) ((z6_ x18 x20).f3.f2) x20 ((z6_ x18 x20).f1) (-1) ((z6_ x18 x20).f3.f0) ((z6_ x18 x20).f3.f1) ((z6_ x18 x20).f3.f2)) else (zy_.j1 k x20 x18 x19 x20 x346000 x346001 x346002 x349000 x349001 x349002 ((z6_ x18 x20).f0) ((z6_ x18 x20).f1) ((z6_ x18 x20).f2) ((z6_ x18 x20).f3.f0) ((z6_ x18 x20).f3.f1) ((z6_ x18 x20).f3.f2) x20 1 (-1) ((z6_ x18 x20).f3.f0) ((z6_ x18 x20).f3.f1) ((z6_ x18 x20).f3.f2))) else (none)) else (none)) else (some (x349000,x349001,x349002))
def zy_.j1:Nat→Int→List (S86)→Int→Int→Bool→ByteArray→List (S86)→ByteArray→Int→List (S82)→Int→Int→ByteArray→Int→Int→ByteArray→Int→Int→Int→Int→Int→ByteArray→Option (ByteArray×Int×(List (S82)))
 | 0,_,_,_,_,_,_,_,_,_,_,_,_,_,_,_,_,_,_,_,_,_,_=>none
 | k+1,x4,x18,x19,x20,x346000,x346001,x346002,x349000,x349001,x349002,x351000,x351001,x351002,x351003,x351004,x351005,x352000,x352001,x352002,x352003,x352004,x352005=>if x351000=0 then (zy_.l0 k x18 x19 (wrap64 (x20+1)) x346000 x346001 x346002 x349000 x349001 x349002) else (if x351002.toList=([]:List UInt8) then (if x349002.length<2513169434916 then (zy_.l0 k x18 x19 (wrap64 (x20+1)) x346000 x346001 x346002 x349000 x349001 (x349002++[(⟨x352000,x352001,x352002,(⟨x352003,x352004,x352005⟩:S80)⟩:S82)])) else (none)) else ((yg_.f k x346000 x346001 x346002 x4 x351002).bind fun t355=>(if t355<0 then (zy_.l0 k x18 x19 (wrap64 (x20+1)) x346000 x346001 x346002 x349000 x349001 x349002) else (if x349002.length<2513169434916 then (zy_.l0 k x18 x19 (wrap64 (x20+1)) x346000 x346001 x346002 x349000 x349001 (x349002++[(⟨x352000,x352001,t355,(⟨x352003,x352004,x352005⟩:S80)⟩:S82)])) else (none)))))
end
def zy_.f (k:Nat) (a0_0:Bool) (a0_1:ByteArray) (l0_2:List (S86)):Option (ByteArray×Int×(List (S82))):=(zo_.f k a0_0 a0_1 l0_2).bind fun t347=>(if t347=true then (zy_.l0 k l0_2 (l0_2.length:Int) 0 a0_0 a0_1 l0_2 a0_1 (l0_2.length:Int) ([]:List (S82))) else (some ((⟨#[]⟩:ByteArray),0,([]:List (S82)))))
theorem zy_.y6_:∀k,(∀y0 y1 y2 y3 y4 y5 y6 y7 y8,LeO (zy_.l0 k y0 y1 y2 y3 y4 y5 y6 y7 y8) (zy_.l0 (k+1) y0 y1 y2 y3 y4 y5 y6 y7 y8))∧(∀y0 y1 y2 y3 y4 y5 y6 y7 y8 y9 y10 y11 y12 y13 y14 y15 y16 y17 y18 y19 y20 y21,LeO (zy_.j1 k y0 y1 y2 y3 y4 y5 y6 y7 y8 y9 y10 y11 y12 y13 y14 y15 y16 y17 y18 y19 y20 y21) (zy_.j1 (k+1) y0 y1 y2 y3 y4 y5 y6 y7 y8 y9 y10 y11 y12 y13 y14 y15 y16 y17 y18 y19 y20 y21))
 | 0=>⟨fun _ _ _ _ _ _ _ _ _ r h=>by simp [zy_.l0] at h,fun _ _ _ _ _ _ _ _ _ _ _ _ _ _ _ _ _ _ _ _ _ _ r h=>by simp [zy_.j1] at h⟩
 | k+1=>by
  obtain ⟨ih0,ih1⟩:=zy_.y6_ k;refine ⟨?_,?_⟩
  ·intro y0 y1 y2 y3 y4 y5 y6 y7 y8;unfold zy_.l0
   repeat' with_reducible first|apply ih0|apply ih1|apply zo_.mono|apply yg_.mono|apply LeO.refl|apply LeO.none|refine LeO.ite ?_ ?_|refine LeO.bind ?_ (fun _=>?_)
  ·intro y0 y1 y2 y3 y4 y5 y6 y7 y8 y9 y10 y11 y12 y13 y14 y15 y16 y17 y18 y19 y20 y21;unfold zy_.j1
   repeat' with_reducible first|apply ih0|apply ih1|apply zo_.mono|apply yg_.mono|apply LeO.refl|apply LeO.none|refine LeO.ite ?_ ?_|refine LeO.bind ?_ (fun _=>?_)
theorem zy_.mono:∀a0 a1 a2 k,LeO (zy_.f k a0 a1 a2) (zy_.f (k+1) a0 a1 a2):=by
 intro a0 a1 a2 k;obtain ⟨ih0,ih1⟩:=zy_.y6_ k;unfold zy_.f
 repeat' with_reducible first|apply ih0|apply ih1|apply zo_.mono|apply yg_.mono|apply LeO.refl|apply LeO.none|refine LeO.ite ?_ ?_|refine LeO.bind ?_ (fun _=>?_)
set_option maxHeartbeats 8000000 in
set_option maxRecDepth 100000 in
theorem zy_.calls (k:Nat) (a0_0:Bool) (a0_1:ByteArray) (A0_2:Option Addr) (c0_2:Nat) (l0_2:List (S86)) (r1:ByteArray) (r2:Int) (r3:List (S82)) (w:World) (hr0_2:Kd.C k86 w A0_2 l0_2.length l0_2) (hc0_2:l0_2.length≤c0_2) (h:zy_.f k a0_0 a0_1 l0_2=some (r1,r2,r3)):
  Calls Tryz.prog 10 #[.agg #[.bool a0_0,.string a0_1,.slice A0_2 l0_2.length c0_2]] w fun e w'=>∃v2_:Value,e=.returned (.agg #[.string r1,.int .i64 r2,v2_])∧Kd.R k82 82 w' w.heap.size (fun _=>True) v2_ r3∧Below w.heap.size w w':=by
 have hu42:=Tryz.underlying42;have hu50:=Tryz.underlying50;have hu86:=Tryz.underlying86;have hu80:=Tryz.underlying80;have hu82:=Tryz.underlying82;have HR0_2:=a_ hr0_2;have HC0_2:=a_ hc0_2;clear hr0_2 hc0_2;have HB:=a_ (Below.refl w.heap.size w);have H:=h;unfold zy_.f at H
 clear h;obtain ⟨t347,A2,H⟩:=ob_ H;by_cases c3:t347=true
 ·subst c3;rw [if_pos rfl] at H;have H':=a_ H;clear H;go_enter Tryz.func10,Tryz.ntmps10;go_wp2_with (first|((with_reducible refine zl_ (N:=1) rfl ?_);refine bh_ 1 #[.bool a0_0,.string a0_1,.slice A0_2 l0_2.length c0_2] 42 HB ?_;intro gb345 hg wx BK345 GE345 hb;replace HB:=ms_ HB hb;clear hb hg)|((with_reducible refine zl_ (N:=2) rfl ?_);refine bh_ 2 #[.string (⟨#[]⟩:ByteArray),.int .i64 0,.slice none 0 0] 50 HB ?_;intro gb346 hg wx BK346 GE346 hb;obtain ⟨NB345_346,NB346_345⟩:=mn_ BK345 hg;replace BK345:=mk_ BK345 hb;replace HB:=ms_ HB hb;clear hb hg;have nNB345_346:=NB345_346.out;have nNB346_345:=NB346_345.out;replace hz345:=cz3 BK345)|((with_reducible refine zg_ (f:=32) rfl ?_);refine xf_ (some 8) rfl rfl Tryz.func32 (by kernel_rfl) rfl #[.agg #[.bool a0_0,.string a0_1,.slice A0_2 l0_2.length c0_2]] rfl mw_ ?_;(with_reducible refine (zo_.calls k a0_0 a0_1 _ _ l0_2 true _ ?side1 HC0_2.out A2.out).mono ?_);(case side1=>exact mt_ HR0_2 HB);rintro e wx ⟨rfl,hb⟩;refine ⟨_,rfl,?_⟩;replace BK345:=mk_ BK345 hb;replace BK346:=mk_ BK346 hb;replace HB:=ms_ HB hb;(try clear hb);replace hz345:=cz3 BK345)|((with_reducible refine zl_ (N:=3) rfl ?_);refine bh_ 3 #[.string (⟨#[]⟩:ByteArray),.int .i64 0,.slice none 0 0] 50 HB ?_;intro gb348 hg wx BK348 GE348 hb;obtain ⟨NB345_348,NB348_345⟩:=mn_ BK345 hg;obtain ⟨NB346_348,NB348_346⟩:=mn_ BK346 hg;replace BK345:=mk_ BK345 hb;replace BK346:=mk_ BK346 hb;replace HB:=ms_ HB hb;clear hb hg;have nNB348_345:=NB348_345.out;have nNB345_348:=NB345_348.out;have nNB348_346:=NB348_346.out;have nNB346_348:=NB346_348.out;replace hz348:=cz3 BK348;replace hz345:=cz3 BK345));go_loopg [20] k (fun kq v20 w'=>∃(x20_1:Int) (x349002_1:List (S82)) (u349002:Value),v20=.int .i64 x20_1∧z0_ (zy_.l0 kq l0_2 (l0_2.length:Int) x20_1 a0_0 a0_1 l0_2 a0_1 (l0_2.length:Int) x349002_1=some (r1,r2,r3))∧z0_ (kq≤k)∧z0_ (Kd.R k82 82 w' w.heap.size (fun _=>True) u349002 x349002_1)∧z0_ (w'.heap[gb345]?=some (.cells #[.bool a0_0,.string a0_1,(.slice A0_2 l0_2.length c0_2)] 42 (0,0)))∧z0_ (w'.heap[gb346]?=some (.cells #[.string (⟨#[]⟩:ByteArray),.int .i64 0,(.slice none 0 0)] 50 (0,0)))∧z0_ (w'.heap[gb348]?=some (.cells #[.string a0_1,.int .i64 (l0_2.length:Int),u349002] 50 (0,0)))∧z0_ (Below w.heap.size w w'))
  case atStart=>exact ⟨(0),(([]:List (S82))),(.slice none 0 0),mq_,H',⟨Nat.le_refl _⟩,⟨by first|exact Kd.R_nil _ _ _ _ _|exact Kd.N_nil _ _ _ _ _|exact Kd.V_nil _ _ _ _ _|exact Kd.Q_nil _ _ _ _ _|exact Kd.S_nil _ _ _ _ _⟩,⟨mc_ BK345⟩,⟨mc_ BK346⟩,⟨mp_ BK348⟩,⟨mb_ HB⟩⟩
  clear H';(try clear c3);obtain ⟨x20_1,x349002_1,u349002,rfl,HA,HK1,HO_349002,BK345,BK346,BK348,HB⟩:=hrel;obtain _|k1:=gk
  ·exact absurd HA.out (by simp [zy_.l0])
  have H:=HA.out;clear HA;simp only [zy_.l0] at H;by_cases c15:x20_1<(l0_2.length:Int)
  ·rw [if_pos c15] at H;have c15b0:=ct_ c15;clear c15;by_cases c16:0≤x20_1
   case neg=>
    rw [if_neg c16] at H;cases H
   rw [if_pos c16] at H;have c16b0:=ct_ c16;clear c16;by_cases c17:x20_1<(l0_2.length:Int)
   case neg=>
    rw [if_neg c17] at H;cases H
   rw [if_pos c17] at H;have c17b0:=ct_ c17;clear c17;have HC18:=a_ H;clear H;have p349:0≤(x20_1:Int):=md_
   have q349:x20_1<(l0_2.length:Int):=md_
   obtain ⟨ad349,e349,hx349_0,hx349_1,hx349_2,hx349_3,hx349_4,hx349_5⟩:=at_T86 HR0_2.out x20_1 p349 q349;cases e349;replace hx349_0:=mx_ HB hx349_0;replace hx349_1:=mx_ HB hx349_1;replace hx349_2:=mx_ HB hx349_2;replace hx349_3:=mx_ HB hx349_3;replace hx349_4:=mx_ HB hx349_4;replace hx349_5:=mx_ HB hx349_5;replace p349:=eq_true p349;replace q349:=eq_true q349;go_upto_if 31 with (first|((with_reducible refine zl_ (N:=5) rfl ?_);refine bh_ 5 #[.int .i64 0,.int .i64 0,.string (⟨#[]⟩:ByteArray),.int .i64 0,.int .i64 0,.string (⟨#[]⟩:ByteArray)] 86 HB ?_;intro gb350 hg w19 BK350 GE350 hb;obtain ⟨NB345_350,NB350_345⟩:=mn_ BK345 hg;obtain ⟨NB346_350,NB350_346⟩:=mn_ BK346 hg;obtain ⟨NB348_350,NB350_348⟩:=mn_ BK348 hg;replace HO_349002:=ro_ HO_349002 hb;replace BK345:=mk_ BK345 hb;replace BK346:=mk_ BK346 hb;replace BK348:=mk_ BK348 hb;replace HB:=ms_ HB hb;clear hb hg;have nNB350_345:=NB350_345.out;have nNB345_350:=NB345_350.out;have nNB350_346:=NB350_346.out;have nNB346_350:=NB346_350.out;have nNB350_348:=NB350_348.out;have nNB348_350:=NB348_350.out;replace hz350:=cz6 BK350)|((with_reducible refine zl_ (N:=6) rfl ?_);refine bh_ 6 #[.int .i64 0,.int .i64 0,.int .i64 0,.int .i64 0,.int .i64 0,.string (⟨#[]⟩:ByteArray)] 82 HB ?_;intro gb351 hg w24 BK351 GE351 hb;obtain ⟨NB345_351,NB351_345⟩:=mn_ BK345 hg;obtain ⟨NB346_351,NB351_346⟩:=mn_ BK346 hg;obtain ⟨NB348_351,NB351_348⟩:=mn_ BK348 hg;have NB350_351:=a_ ((by rw [hg];exact Nat.ne_of_lt (blk_lt (g:=gb350) (o:=.cells #[.int .i64 ((z6_ l0_2 x20_1).f0),.int .i64 ((z6_ l0_2 x20_1).f1),.string ((z6_ l0_2 x20_1).f2),.int .i64 ((z6_ l0_2 x20_1).f3.f0),.int .i64 ((z6_ l0_2 x20_1).f3.f1),.string ((z6_ l0_2 x20_1).f3.f2)] 86 (0,0)) (mp_ BK350)):gb350≠gb351));have NB351_350:=a_ ((by rw [hg];exact Nat.ne_of_gt (blk_lt (g:=gb350) (o:=.cells #[.int .i64 ((z6_ l0_2 x20_1).f0),.int .i64 ((z6_ l0_2 x20_1).f1),.string ((z6_ l0_2 x20_1).f2),.int .i64 ((z6_ l0_2 x20_1).f3.f0),.int .i64 ((z6_ l0_2 x20_1).f3.f1),.string ((z6_ l0_2 x20_1).f3.f2)] 86 (0,0)) (mp_ BK350)):gb351≠gb350));replace HO_349002:=a_ (Kd.R_below (Kd.R_elderB ((Kd.yk_ (mf_ HO_349002 BK350) (fun _ h_=>h_.1))) gb351 (Nat.le_of_eq hg.symm)) hb);replace BK345:=mk_ BK345 hb;replace BK346:=mk_ BK346 hb;replace BK348:=mk_ BK348 hb;replace BK350:=a_ (zd_ (g:=gb350) (o:=.cells #[.int .i64 ((z6_ l0_2 x20_1).f0),.int .i64 ((z6_ l0_2 x20_1).f1),.string ((z6_ l0_2 x20_1).f2),.int .i64 ((z6_ l0_2 x20_1).f3.f0),.int .i64 ((z6_ l0_2 x20_1).f3.f1),.string ((z6_ l0_2 x20_1).f3.f2)] 86 (0,0)) (mp_ BK350) hb);replace HB:=ms_ HB hb;clear hb hg;have nNB351_345:=NB351_345.out;have nNB345_351:=NB345_351.out;have nNB351_346:=NB351_346.out;have nNB346_351:=NB346_351.out;have nNB351_348:=NB351_348.out;have nNB348_351:=NB348_351.out;have nNB351_350:=NB351_350.out;have nNB350_351:=NB350_351.out;replace hz351:=cz6 BK351;replace hz350:=cz6 BK350))
   (try simp only [Act.put,List.setIfInBounds_toArray,List.set_cons_zero,List.set_cons_succ]);go_cut [] (fun wc=>∃(kq:Nat) (x352001_17:Int),z0_ (zy_.j1 kq x20_1 l0_2 (l0_2.length:Int) x20_1 a0_0 a0_1 l0_2 a0_1 (l0_2.length:Int) x349002_1 ((z6_ l0_2 x20_1).f0) ((z6_ l0_2 x20_1).f1) ((z6_ l0_2 x20_1).f2) ((z6_ l0_2 x20_1).f3.f0) ((z6_ l0_2 x20_1).f3.f1) ((z6_ l0_2 x20_1).f3.f2) x20_1 x352001_17 (-1) ((z6_ l0_2 x20_1).f3.f0) ((z6_ l0_2 x20_1).f3.f1) ((z6_ l0_2 x20_1).f3.f2)=some (r1,r2,r3))∧z0_ (kq≤k1)∧z0_ (Kd.R k82 82 wc w.heap.size (fun k_=>k_≠gb351) u349002 x349002_1)∧z0_ (wc.heap[gb345]?=some (.cells #[.bool a0_0,.string a0_1,(.slice (some ad349) l0_2.length c0_2)] 42 (0,0)))∧z0_ (wc.heap[gb346]?=some (.cells #[.string (⟨#[]⟩:ByteArray),.int .i64 0,(.slice none 0 0)] 50 (0,0)))∧z0_ (wc.heap[gb348]?=some (.cells #[.string a0_1,.int .i64 (l0_2.length:Int),u349002] 50 (0,0)))∧z0_ (wc.heap[gb350]?=some (.cells #[.int .i64 ((z6_ l0_2 x20_1).f0),.int .i64 ((z6_ l0_2 x20_1).f1),.string ((z6_ l0_2 x20_1).f2),.int .i64 ((z6_ l0_2 x20_1).f3.f0),.int .i64 ((z6_ l0_2 x20_1).f3.f1),.string ((z6_ l0_2 x20_1).f3.f2)] 86 (0,0)))∧z0_ (wc.heap[gb351]?=some (.cells #[.int .i64 x20_1,.int .i64 x352001_17,.int .i64 (-1),.int .i64 ((z6_ l0_2 x20_1).f3.f0),.int .i64 ((z6_ l0_2 x20_1).f3.f1),.string ((z6_ l0_2 x20_1).f3.f2)] 82 (0,0)))∧z0_ (Below w.heap.size w wc))
   case first=>
    have H:=HC18.out;clear HC18;by_cases c31:((z6_ l0_2 x20_1).f0)=3
    ·rw [if_pos c31] at H;obtain ⟨c31b0,c31b1⟩:=bq_ c31;clear c31;(first|rw [c31b0]|(simp only [i64_w,i32_w];rw [c31b0])|skip);have H':=a_ H;clear H;have nNB350_345:=NB350_345.out;have nNB345_350:=NB345_350.out;have nNB350_346:=NB350_346.out;have nNB346_350:=NB346_350.out;have nNB350_348:=NB350_348.out;have nNB348_350:=NB348_350.out;have nNB350_351:=NB350_351.out;have nNB351_350:=NB351_350.out;replace hz350:=cz6 BK350;have nNB351_345:=NB351_345.out;have nNB345_351:=NB345_351.out;have nNB351_346:=NB351_346.out;have nNB346_351:=NB346_351.out;have nNB351_348:=NB351_348.out;have nNB348_351:=NB348_351.out;replace hz351:=cz6 BK351;go_wp2;go_meet
     case rel=>exact ⟨_,((z6_ l0_2 x20_1).f1),H',⟨by have:=HK1.out;first|omega|exact Nat.le_refl _⟩,⟨mo_ (Kd.yk_ (Kd.R_far (p:=⟨gb351,1,none⟩) (Kd.R_far (p:=⟨gb351,5,none⟩) (Kd.R_far (p:=⟨gb351,4,none⟩) (Kd.R_far (p:=⟨gb351,3,none⟩) (Kd.R_far (p:=⟨gb351,2,none⟩) (Kd.R_far (p:=⟨gb351,1,none⟩) (Kd.R_far (p:=⟨gb351,0,none⟩) (Kd.yk_ HO_349002.out (fun k_ hk=>(⟨hk,hk.2⟩:_∧k_≠gb351))) (fun _ hk=>hk.2) (.int .i64 x20_1)) (fun _ hk=>hk.2) (.int .i64 1)) (fun _ hk=>hk.2) (.int .i64 (-1))) (fun _ hk=>hk.2) (.int .i64 ((z6_ l0_2 x20_1).f3.f0))) (fun _ hk=>hk.2) (.int .i64 ((z6_ l0_2 x20_1).f3.f1))) (fun _ hk=>hk.2) (.string ((z6_ l0_2 x20_1).f3.f2))) (fun _ hk=>hk.2) (.int .i64 ((z6_ l0_2 x20_1).f1))) (fun _ hk=>hk.1.2))⟩,⟨mc_ BK345⟩,⟨mc_ BK346⟩,⟨mc_ BK348⟩,⟨mc_ BK350⟩,⟨mp_ BK351⟩,⟨mb_ HB⟩⟩
    ·rw [if_neg c31] at H;obtain ⟨c31b0,c31b1⟩:=bn_ c31;(first|rw [c31b0]|(simp only [i64_w,i32_w];rw [c31b0])|skip);have H':=a_ H;clear H;go_wp2;go_meet
     case rel=>exact ⟨_,(1),H',⟨by have:=HK1.out;first|omega|exact Nat.le_refl _⟩,⟨mo_ (Kd.yk_ (Kd.R_far (p:=⟨gb351,5,none⟩) (Kd.R_far (p:=⟨gb351,4,none⟩) (Kd.R_far (p:=⟨gb351,3,none⟩) (Kd.R_far (p:=⟨gb351,2,none⟩) (Kd.R_far (p:=⟨gb351,1,none⟩) (Kd.R_far (p:=⟨gb351,0,none⟩) (Kd.yk_ HO_349002.out (fun k_ hk=>(⟨hk,hk.2⟩:_∧k_≠gb351))) (fun _ hk=>hk.2) (.int .i64 x20_1)) (fun _ hk=>hk.2) (.int .i64 1)) (fun _ hk=>hk.2) (.int .i64 (-1))) (fun _ hk=>hk.2) (.int .i64 ((z6_ l0_2 x20_1).f3.f0))) (fun _ hk=>hk.2) (.int .i64 ((z6_ l0_2 x20_1).f3.f1))) (fun _ hk=>hk.2) (.string ((z6_ l0_2 x20_1).f3.f2))) (fun _ hk=>hk.1.2))⟩,⟨mc_ BK345⟩,⟨mc_ BK346⟩,⟨mc_ BK348⟩,⟨mc_ BK350⟩,⟨mp_ BK351⟩,⟨mb_ HB⟩⟩
   clear HC18;(try clear c15b0);(try clear c16b0);(try clear c17b0);(try clear hx349_0);(try clear hx349_1);(try clear hx349_2);(try clear hx349_3);(try clear hx349_4);(try clear hx349_5);(try clear p349);(try clear q349);obtain ⟨kq,x352001_17,HA,HJ17,HO_349002,BK345,BK346,BK348,BK350,BK351,HB⟩:=hcut;obtain _|kj17:=kq
   ·exact absurd HA.out (by simp [zy_.j1])
   have H:=HA.out;clear HA;simp only [zy_.j1] at H;by_cases c41:((z6_ l0_2 x20_1).f0)=0
   ·rw [if_pos c41] at H;obtain ⟨c41b0,c41b1⟩:=bq_ c41;clear c41;have H':=a_ H;clear H;have nNB350_345:=NB350_345.out;have nNB345_350:=NB345_350.out;have nNB350_346:=NB350_346.out;have nNB346_350:=NB346_350.out;have nNB350_348:=NB350_348.out;have nNB348_350:=NB348_350.out;have nNB350_351:=NB350_351.out;have nNB351_350:=NB351_350.out;replace hz350:=cz6 BK350;go_wp2;go_roundg kj17
    case measure=>
     have:=HK1.out
     have:=HJ17.out
     omega
    case rel=>exact ⟨(wrap64 (x20_1+1)),(x349002_1),(u349002),mq_,H',⟨by have:=HK1.out;have:=HJ17.out;omega⟩,⟨mo_ (Kd.yk_ HO_349002.out (fun _ hk=>trivial))⟩,⟨mc_ BK345⟩,⟨mc_ BK346⟩,⟨mc_ BK348⟩,⟨mb_ HB⟩⟩
   ·rw [if_neg c41] at H;obtain ⟨c41b0,c41b1⟩:=bn_ c41;by_cases c47:((z6_ l0_2 x20_1).f2).toList=([]:List UInt8)
    ·rw [if_pos c47] at H;obtain ⟨c47b0,c47b1⟩:=bq_ c47;clear c47;by_cases c48:x349002_1.length<2513169434916
     case neg=>
      rw [if_neg c48] at H;cases H
     rw [if_pos c48] at H;have LMc48:=a_ c48;clear c48;obtain ⟨y352,hy352⟩:∃y_:List (S82),y_=(x349002_1++[(⟨x20_1,x352001_17,(-1),(⟨((z6_ l0_2 x20_1).f3.f0),((z6_ l0_2 x20_1).f3.f1),((z6_ l0_2 x20_1).f3.f2)⟩:S80)⟩:S82)]):=⟨_,rfl⟩;rw [←hy352] at H;(try rw [Option.bind_some] at H);have Ny352:=a_ hy352;clear hy352;have H':=a_ H;clear H;have nNB350_345:=NB350_345.out;have nNB345_350:=NB345_350.out;have nNB350_346:=NB350_346.out;have nNB346_350:=NB346_350.out;have nNB350_348:=NB350_348.out;have nNB348_350:=NB348_350.out;have nNB350_351:=NB350_351.out;have nNB351_350:=NB351_350.out;replace hz350:=cz6 BK350;have nNB348_345:=NB348_345.out;have nNB345_348:=NB345_348.out;have nNB348_346:=NB348_346.out;have nNB346_348:=NB346_348.out;have nNB348_351:=NB348_351.out;have nNB351_348:=NB351_348.out;replace hz348:=cz3 BK348;have nNB351_345:=NB351_345.out;have nNB345_351:=NB345_351.out;have nNB351_346:=NB351_346.out;have nNB346_351:=NB346_351.out;replace hz351:=cz6 BK351;go_wp2_with (first|((with_reducible refine gate_builtin (b:=.append) (xs:=#[.tmp 51,.tmp 53]) rfl ?_);at_builtin;refine Kd.R_append k82 (w0:=w) w.heap.size rfl (.tmp 51) (.tmp 53) 48 82 (.agg #[(.int .i64 0),(.int .i64 0),(.int .i64 0),(.int .i64 0),(.int .i64 0),(.string ⟨#[]⟩)]) 56 rfl Tryz.underlying48 info82 rfl (by decide) (by omega) u349002 x349002_1 (⟨x20_1,x352001_17,(-1),(⟨((z6_ l0_2 x20_1).f3.f0),((z6_ l0_2 x20_1).f3.f1),((z6_ l0_2 x20_1).f3.f2)⟩:S80)⟩:S82) [.int .i64 x20_1,.int .i64 x352001_17,.int .i64 (-1),.int .i64 ((z6_ l0_2 x20_1).f3.f0),.int .i64 ((z6_ l0_2 x20_1).f3.f1),.string ((z6_ l0_2 x20_1).f3.f2)] (fun k_=>k_≠gb351) (fun _=>False) rfl rfl ?aP (fun _ hk=>hk.elim) ?aF ?aO ?aB ?aS ?aL ?_;(case aP=>exact k82_mkM _ _ _ (⟨x20_1,x352001_17,(-1),(⟨((z6_ l0_2 x20_1).f3.f0),((z6_ l0_2 x20_1).f3.f1),((z6_ l0_2 x20_1).f3.f2)⟩:S80)⟩:S82));(case aB=>exact (mb_ HB));(case aF=>exact (fun k_ hk=>Kd.freshB (g:=gb351) (o:=.cells #[.int .i64 x20_1,.int .i64 x352001_17,.int .i64 (-1),.int .i64 ((z6_ l0_2 x20_1).f3.f0),.int .i64 ((z6_ l0_2 x20_1).f3.f1),.string ((z6_ l0_2 x20_1).f3.f2)] 82 (0,0)) (mc_ BK351) k_ hk));(case aO=>exact (mo_ HO_349002.out));(case aS=>exact (zw_ (mb_ HB)));(case aL=>have:=LMc48.out;omega);intro v353 wx ho hb hg hat;rw [←Ny352.out] at ho;have HO354:=a_ (ho);replace BK345:=a_ (zk_ (mc_ BK345) hg (Kd.R_ne HO_349002.out BK345.out (by decide)));replace BK346:=a_ (zk_ (mc_ BK346) hg (Kd.R_ne HO_349002.out BK346.out (by decide)));replace BK348:=a_ (zk_ (mc_ BK348) hg (Kd.R_ne HO_349002.out BK348.out (by decide)));replace BK350:=a_ (zk_ (mc_ BK350) hg (Kd.R_ne HO_349002.out BK350.out (by decide)));replace BK351:=a_ (zk_ (mc_ BK351) hg (Kd.R_away HO_349002.out (fun _ hk=>hk)));replace HB:=a_ (hb);clear HO_349002;clear ho hb hg hat;obtain ⟨Ao62,co62,eo62⟩:=Kd.yv_ HO354.out;subst eo62;replace hz348:=cz3 BK348))
     go_roundg kj17
     case measure=>
      have:=HK1.out
      have:=HJ17.out
      omega
     case rel=>exact ⟨(wrap64 (x20_1+1)),(y352),(.slice Ao62 y352.length co62),mq_,H',⟨by have:=HK1.out;have:=HJ17.out;omega⟩,⟨(Kd.yk_ (mf_ HO354 BK348) (fun _ hk=>trivial))⟩,⟨mc_ BK345⟩,⟨mc_ BK346⟩,⟨mp_ BK348⟩,⟨mb_ HB⟩⟩
    ·rw [if_neg c47] at H;obtain ⟨c47b0,c47b1⟩:=bn_ c47;obtain ⟨t355,A64,H⟩:=ob_ H;by_cases c65:t355<0
     ·rw [if_pos c65] at H;have c65b0:=ct_ c65;clear c65;have H':=a_ H;clear H;have nNB350_345:=NB350_345.out;have nNB345_350:=NB345_350.out;have nNB350_346:=NB350_346.out;have nNB346_350:=NB346_350.out;have nNB350_348:=NB350_348.out;have nNB348_350:=NB348_350.out;have nNB350_351:=NB350_351.out;have nNB351_350:=NB351_350.out;replace hz350:=cz6 BK350;have nNB345_346:=NB345_346.out;have nNB346_345:=NB346_345.out;have nNB345_348:=NB345_348.out;have nNB348_345:=NB348_345.out;have nNB345_351:=NB345_351.out;have nNB351_345:=NB351_345.out;replace hz345:=cz3 BK345;go_wp2_with (first|((with_reducible refine zg_ (f:=33) rfl ?_);refine xf_ (some 45) rfl rfl Tryz.func33 (by kernel_rfl) rfl #[.agg #[.bool a0_0,.string a0_1,.slice (some ad349) l0_2.length c0_2],.int .i64 x20_1,.string ((z6_ l0_2 x20_1).f2)] rfl mw_ ?_;(with_reducible refine (yg_.calls kj17 a0_0 a0_1 _ _ l0_2 x20_1 ((z6_ l0_2 x20_1).f2) t355 _ ?side1 HC0_2.out A64.out).mono ?_);(case side1=>exact mt_ HR0_2 HB);rintro e wx ⟨rfl,hb⟩;refine ⟨_,rfl,?_⟩;replace HO_349002:=ro_ HO_349002 hb;replace BK345:=mk_ BK345 hb;replace BK346:=mk_ BK346 hb;replace BK348:=mk_ BK348 hb;replace BK350:=mk_ BK350 hb;replace BK351:=mk_ BK351 hb;replace HB:=ms_ HB hb;(try clear hb);have nNB351_346:=NB351_346.out;have nNB346_351:=NB346_351.out;have nNB351_348:=NB351_348.out;have nNB348_351:=NB348_351.out;replace hz351:=cz6 BK351));go_roundg kj17
      case measure=>
       have:=HK1.out
       have:=HJ17.out
       omega
      case rel=>exact ⟨(wrap64 (x20_1+1)),(x349002_1),(u349002),mq_,H',⟨by have:=HK1.out;have:=HJ17.out;omega⟩,⟨mo_ (Kd.yk_ (Kd.R_far (p:=⟨gb351,2,none⟩) (Kd.yk_ HO_349002.out (fun k_ hk=>(⟨hk,hk⟩:_∧k_≠gb351))) (fun _ hk=>hk.2) (.int .i64 t355)) (fun _ hk=>trivial))⟩,⟨mc_ BK345⟩,⟨mc_ BK346⟩,⟨mc_ BK348⟩,⟨mb_ HB⟩⟩
     ·rw [if_neg c65] at H;have c65b0:=cf_ c65;clear c65;by_cases c79:x349002_1.length<2513169434916
      case neg=>
       rw [if_neg c79] at H;cases H
      rw [if_pos c79] at H;have LMc79:=a_ c79;clear c79;obtain ⟨y356,hy356⟩:∃y_:List (S82),y_=(x349002_1++[(⟨x20_1,x352001_17,t355,(⟨((z6_ l0_2 x20_1).f3.f0),((z6_ l0_2 x20_1).f3.f1),((z6_ l0_2 x20_1).f3.f2)⟩:S80)⟩:S82)]):=⟨_,rfl⟩;rw [←hy356] at H;(try rw [Option.bind_some] at H);have Ny356:=a_ hy356;clear hy356;have H':=a_ H;clear H;have nNB350_345:=NB350_345.out;have nNB345_350:=NB345_350.out;have nNB350_346:=NB350_346.out;have nNB346_350:=NB346_350.out;have nNB350_348:=NB350_348.out;have nNB348_350:=NB348_350.out;have nNB350_351:=NB350_351.out;have nNB351_350:=NB351_350.out;replace hz350:=cz6 BK350;have nNB345_346:=NB345_346.out;have nNB346_345:=NB346_345.out;have nNB345_348:=NB345_348.out;have nNB348_345:=NB348_345.out;have nNB345_351:=NB345_351.out;have nNB351_345:=NB351_345.out;replace hz345:=cz3 BK345;go_wp2_with (first|((with_reducible refine zg_ (f:=33) rfl ?_);refine xf_ (some 45) rfl rfl Tryz.func33 (by kernel_rfl) rfl #[.agg #[.bool a0_0,.string a0_1,.slice (some ad349) l0_2.length c0_2],.int .i64 x20_1,.string ((z6_ l0_2 x20_1).f2)] rfl mw_ ?_;(with_reducible refine (yg_.calls kj17 a0_0 a0_1 _ _ l0_2 x20_1 ((z6_ l0_2 x20_1).f2) t355 _ ?side1 HC0_2.out A64.out).mono ?_);(case side1=>exact mt_ HR0_2 HB);rintro e wx ⟨rfl,hb⟩;refine ⟨_,rfl,?_⟩;replace HO_349002:=ro_ HO_349002 hb;replace BK345:=mk_ BK345 hb;replace BK346:=mk_ BK346 hb;replace BK348:=mk_ BK348 hb;replace BK350:=mk_ BK350 hb;replace BK351:=mk_ BK351 hb;replace HB:=ms_ HB hb;(try clear hb);have nNB351_346:=NB351_346.out;have nNB346_351:=NB346_351.out;have nNB351_348:=NB351_348.out;have nNB348_351:=NB348_351.out;replace hz351:=cz6 BK351;have nNB348_346:=NB348_346.out;have nNB346_348:=NB346_348.out;replace hz348:=cz3 BK348)|((with_reducible refine gate_builtin (b:=.append) (xs:=#[.tmp 51,.tmp 53]) rfl ?_);at_builtin;refine Kd.R_append k82 (w0:=w) w.heap.size rfl (.tmp 51) (.tmp 53) 48 82 (.agg #[(.int .i64 0),(.int .i64 0),(.int .i64 0),(.int .i64 0),(.int .i64 0),(.string ⟨#[]⟩)]) 56 rfl Tryz.underlying48 info82 rfl (by decide) (by omega) u349002 x349002_1 (⟨x20_1,x352001_17,t355,(⟨((z6_ l0_2 x20_1).f3.f0),((z6_ l0_2 x20_1).f3.f1),((z6_ l0_2 x20_1).f3.f2)⟩:S80)⟩:S82) [.int .i64 x20_1,.int .i64 x352001_17,.int .i64 t355,.int .i64 ((z6_ l0_2 x20_1).f3.f0),.int .i64 ((z6_ l0_2 x20_1).f3.f1),.string ((z6_ l0_2 x20_1).f3.f2)] (fun k_=>k_≠gb351) (fun _=>False) rfl (by first|(go_simp;done)|(go_simp;rfl)) ?aP (fun _ hk=>hk.elim) ?aF ?aO ?aB ?aS ?aL ?_;(case aP=>exact k82_mkM _ _ _ (⟨x20_1,x352001_17,t355,(⟨((z6_ l0_2 x20_1).f3.f0),((z6_ l0_2 x20_1).f3.f1),((z6_ l0_2 x20_1).f3.f2)⟩:S80)⟩:S82));(case aB=>exact (mb_ HB));(case aF=>exact (fun k_ hk=>Kd.freshB (g:=gb351) (o:=.cells #[.int .i64 x20_1,.int .i64 x352001_17,.int .i64 t355,.int .i64 ((z6_ l0_2 x20_1).f3.f0),.int .i64 ((z6_ l0_2 x20_1).f3.f1),.string ((z6_ l0_2 x20_1).f3.f2)] 82 (0,0)) (mp_ BK351) k_ hk));(case aO=>exact (mo_ (Kd.yk_ (Kd.R_far (p:=⟨gb351,2,none⟩) (Kd.yk_ HO_349002.out (fun k_ hk=>(⟨hk,hk⟩:_∧k_≠gb351))) (fun _ hk=>hk.2) (.int .i64 t355)) (fun _ hk=>hk.1))));(case aS=>exact (zw_ (mb_ HB)));(case aL=>have:=LMc79.out;omega);intro v357 wx ho hb hg hat;rw [←Ny356.out] at ho;have HO358:=a_ (ho);replace BK345:=a_ (zk_ (mc_ BK345) hg (Kd.R_ne HO_349002.out BK345.out (by decide)));replace BK346:=a_ (zk_ (mc_ BK346) hg (Kd.R_ne HO_349002.out BK346.out (by decide)));replace BK348:=a_ (zk_ (mc_ BK348) hg (Kd.R_ne HO_349002.out BK348.out (by decide)));replace BK350:=a_ (zk_ (mc_ BK350) hg (Kd.R_ne HO_349002.out BK350.out (by decide)));replace BK351:=a_ (zk_ (g:=gb351) (o:=.cells #[.int .i64 x20_1,.int .i64 x352001_17,.int .i64 t355,.int .i64 ((z6_ l0_2 x20_1).f3.f0),.int .i64 ((z6_ l0_2 x20_1).f3.f1),.string ((z6_ l0_2 x20_1).f3.f2)] 82 (0,0)) (mp_ BK351) hg (Kd.R_away HO_349002.out (fun _ hk=>hk)));replace HB:=a_ (hb);clear HO_349002;clear ho hb hg hat;obtain ⟨Ao96,co96,eo96⟩:=Kd.yv_ HO358.out;subst eo96;replace hz348:=cz3 BK348))
      go_roundg kj17
      case measure=>
       have:=HK1.out
       have:=HJ17.out
       omega
      case rel=>exact ⟨(wrap64 (x20_1+1)),(y356),(.slice Ao96 y356.length co96),mq_,H',⟨by have:=HK1.out;have:=HJ17.out;omega⟩,⟨(Kd.yk_ (mf_ HO358 BK348) (fun _ hk=>trivial))⟩,⟨mc_ BK345⟩,⟨mc_ BK346⟩,⟨mp_ BK348⟩,⟨mb_ HB⟩⟩
  ·rw [if_neg c15] at H;have c15b0:=cf_ c15;clear c15;simp only [Option.some.injEq,Prod.mk.injEq] at H;obtain ⟨rfl,rfl,rfl⟩:=H;have nNB348_345:=NB348_345.out;have nNB345_348:=NB345_348.out;have nNB348_346:=NB348_346.out;have nNB346_348:=NB346_348.out;replace hz348:=cz3 BK348;have nNB346_345:=NB346_345.out;have nNB345_346:=NB345_346.out;replace hz346:=cz3 BK346;obtain ⟨Ao103,co103,eo103⟩:=Kd.yv_ HO_349002.out;subst eo103;go_wp2;refine bodyPost_ret (results_cell_row rfl _ _ gb346 50 #[.string a0_1,.int .i64 (l0_2.length:Int),.slice Ao103 x349002_1.length co103] (0,0) _ rfl (mp_ BK346) Tryz.underlying50 rfl (by kernel_rfl)) rfl ?_;exact ⟨_,me_,(Kd.yk_ (mf_ HO_349002 BK346) (fun _ hk=>trivial)),mb_ HB⟩
 ·replace c3:=Bool.eq_false_iff.mpr c3;subst c3;rw [if_neg (show ¬(false=true) by decide)] at H;simp only [Option.some.injEq,Prod.mk.injEq] at H;obtain ⟨rfl,rfl,rfl⟩:=H;go_enter Tryz.func10,Tryz.ntmps10;go_wp2_with (first|((with_reducible refine zl_ (N:=1) rfl ?_);refine bh_ 1 #[.bool a0_0,.string a0_1,.slice A0_2 l0_2.length c0_2] 42 HB ?_;intro gb345 hg wx BK345 GE345 hb;replace HB:=ms_ HB hb;clear hb hg)|((with_reducible refine zl_ (N:=2) rfl ?_);refine bh_ 2 #[.string (⟨#[]⟩:ByteArray),.int .i64 0,.slice none 0 0] 50 HB ?_;intro gb346 hg wx BK346 GE346 hb;obtain ⟨NB345_346,NB346_345⟩:=mn_ BK345 hg;replace BK345:=mk_ BK345 hb;replace HB:=ms_ HB hb;clear hb hg;have nNB345_346:=NB345_346.out;have nNB346_345:=NB346_345.out;replace hz345:=cz3 BK345)|((with_reducible refine zg_ (f:=32) rfl ?_);refine xf_ (some 8) rfl rfl Tryz.func32 (by kernel_rfl) rfl #[.agg #[.bool a0_0,.string a0_1,.slice A0_2 l0_2.length c0_2]] rfl mw_ ?_;(with_reducible refine (zo_.calls k a0_0 a0_1 _ _ l0_2 false _ ?side1 HC0_2.out A2.out).mono ?_);(case side1=>exact mt_ HR0_2 HB);rintro e wx ⟨rfl,hb⟩;refine ⟨_,rfl,?_⟩;replace BK345:=mk_ BK345 hb;replace BK346:=mk_ BK346 hb;replace HB:=ms_ HB hb;(try clear hb);replace hz346:=cz3 BK346));refine bodyPost_ret (results_cell_row rfl _ _ gb346 50 #[.string (⟨#[]⟩:ByteArray),.int .i64 0,.slice none 0 0] (0,0) _ rfl (mp_ BK346) Tryz.underlying50 rfl (by kernel_rfl)) rfl ?_;exact ⟨_,me_,by first|exact Kd.R_nil _ _ _ _ _|exact Kd.N_nil _ _ _ _ _|exact Kd.V_nil _ _ _ _ _|exact Kd.Q_nil _ _ _ _ _|exact Kd.S_nil _ _ _ _ _,mb_ HB⟩
end Go.Proofs.YtahambloheoebaaGreatDoor.P
namespace Go.Proofs.YtahambloheoebaaGreatDoor.P
open Go.Proofs.YtahambloheoebaaGreatDoorX
open Go.RowKit Go.Proofs.YtahambloheoebaaGreatDoorW.PrintWords Go.Proofs.YtahambloheoebaaGreatDoorW.PrintLast Go.Proofs.YtahambloheoebaaGreatDoorW.PrintMore
attribute [local go_sem] ww_ wx_ max_two min_two wc_ wb_ wu_ wv_
theorem eqA82 (d:Nat) (w:World) (x0 y0:Int) (x1 y1:Int) (x2 y2:Int) (x3 y3:Int) (x4 y4:Int) (x5 y5:ByteArray):
  (Op.equalIn (d+3) 82 (.agg #[.int .i64 x0,.int .i64 x1,.int .i64 x2,.int .i64 x3,.int .i64 x4,.string x5]) (.agg #[.int .i64 y0,.int .i64 y1,.int .i64 y2,.int .i64 y3,.int .i64 y4,.string y5])).run Tryz.prog w=.ok (x0==y0&&(x1==y1&&(x2==y2&&((x3==y3&&(x4==y4&&(x5.toList==y5.toList))))))) w:=by
 refine eqA_of Tryz.underlying82 (by kernel_rfl) ?_;refine eqf_cons (by rfl) (by go_simp;rfl) (by go_simp;rfl) (by go_simp) ?_;refine eqf_cons (by rfl) (by go_simp;rfl) (by go_simp;rfl) (by go_simp) ?_;refine eqf_cons (by rfl) (by go_simp;rfl) (by go_simp;rfl) (by go_simp) ?_;exact eqf_last (by rfl) (by go_simp) (by go_simp) (eqA80 (d+0) w _ _ _ _ _ _)
theorem eqA128 (d:Nat) (w:World) (x0 y0:Int) (x1 y1:Int) (x2 y2:Int):
  (Op.equalIn (d+2) 128 (.agg #[.int .i64 x0,.int .i64 x1,.int .i64 x2]) (.agg #[.int .i64 y0,.int .i64 y1,.int .i64 y2])).run Tryz.prog w=.ok (x0==y0&&(x1==y1&&(x2==y2))) w:=by
 refine eqA_of Tryz.underlying128 (by kernel_rfl) ?_;refine eqf_cons (by rfl) (by go_simp;rfl) (by go_simp;rfl) (by go_simp) ?_;refine eqf_cons (by rfl) (by go_simp;rfl) (by go_simp;rfl) (by go_simp) ?_;exact eqf_last (by rfl) (by go_simp;rfl) (by go_simp;rfl) (by go_simp)
def yl_.l0:Nat→ByteArray→List ByteArray→Int→Int→Option (Bool)
 | 0,_,_,_,_=>none
 | k+1,x0,x7,x8,x9=>if x9<x8 then (if 0≤x9 then (if x9<(x7.length:Int) then (if x0.toList=(rdOf ByteArray.empty x7 x9).toList then (some true) else (yl_.l0 k x0 x7 x8 (wrap64 (x9+1)))) else (none)) else (none)) else (some false)
def yl_.f (k:Nat) (a0:ByteArray) (l1:List ByteArray):Option (Bool):=yl_.l0 k a0 l1 (l1.length:Int) 0
theorem yl_.y6_:∀k,(∀y0 y1 y2 y3,LeO (yl_.l0 k y0 y1 y2 y3) (yl_.l0 (k+1) y0 y1 y2 y3))
 | 0=>fun _ _ _ _ r h=>by simp [yl_.l0] at h
 | k+1=>by
  have ih0:=yl_.y6_ k
  ·intro y0 y1 y2 y3;unfold yl_.l0
   repeat' with_reducible first|apply ih0|apply LeO.refl|apply LeO.none|refine LeO.ite ?_ ?_|refine LeO.bind ?_ (fun _=>?_)
theorem yl_.mono:∀a0 a1 k,LeO (yl_.f k a0 a1) (yl_.f (k+1) a0 a1):=by
 intro a0 a1 k;have ih0:=yl_.y6_ k;unfold yl_.f
 repeat' with_reducible first|apply ih0|apply LeO.refl|apply LeO.none|refine LeO.ite ?_ ?_|refine LeO.bind ?_ (fun _=>?_)
set_option maxHeartbeats 8000000 in
set_option maxRecDepth 100000 in
theorem yl_.calls (k:Nat) (a0:ByteArray) (A1:Option Addr) (c1:Nat) (l1:List ByteArray) (r:Bool) (w:World) (hr1:Kd.C Kd.string w A1 l1.length l1) (hc1:l1.length≤c1) (h:yl_.f k a0 l1=some r):
  Calls Tryz.prog 161 #[.string a0,.slice A1 l1.length c1] w fun e w'=>e=.returned (.bool r)∧x4_ w w':=by
 have HR1:=a_ hr1;have HC1:=a_ hc1;clear hr1 hc1;have H:(yl_.l0 k a0 l1 (l1.length:Int) 0)=some r:=h
 clear h;have H':=a_ H;clear H;go_enter Tryz.func161,Tryz.ntmps161;go_wp2;go_loopg [9] k (fun kq v9 w'=>∃(x9_1:Int),v9=.int .i64 x9_1∧z0_ (yl_.l0 kq a0 l1 (l1.length:Int) x9_1=some r)∧z0_ (kq≤k)∧x4_ w w')
 case atStart=>exact ⟨(0),mq_,H',⟨Nat.le_refl _⟩,by repeat (first|exact x4_.refl _|apply x4_.step)⟩
 clear H';obtain ⟨x9_1,rfl,HA,HK1,⟨m1,rfl⟩⟩:=hrel;obtain _|k1:=gk
 ·exact absurd HA.out (by simp [yl_.l0])
 have H:=HA.out;clear HA;simp only [yl_.l0] at H;by_cases c3:x9_1<(l1.length:Int)
 ·rw [if_pos c3] at H;have c3b0:=ct_ c3;clear c3;by_cases c4:0≤x9_1
  case neg=>
   rw [if_neg c4] at H;cases H
  rw [if_pos c4] at H;have c4b0:=ct_ c4;clear c4;by_cases c5:x9_1<(l1.length:Int)
  case neg=>
   rw [if_neg c5] at H;cases H
  rw [if_pos c5] at H;have c5b0:=ct_ c5;clear c5;by_cases c6:a0.toList=(rdOf ByteArray.empty l1 x9_1).toList
  ·rw [if_pos c6] at H;obtain ⟨c6b0,c6b1⟩:=bq_ c6;clear c6;obtain rfl:=oi_ H;have p359:0≤(x9_1:Int):=md_
   have q359:x9_1<(l1.length:Int):=md_
   obtain ⟨ad359,e359,hx359_0⟩:=Kd.at_string HR1.out x9_1 p359 q359;cases e359;replace p359:=eq_true p359;replace q359:=eq_true q359;go_wp2;go_ret;exact ⟨by first|rfl|(simp;done)|(simp [*];done),by repeat (first|exact x4_.refl _|apply x4_.step)⟩
  ·rw [if_neg c6] at H;obtain ⟨c6b0,c6b1⟩:=bn_ c6;have H':=a_ H;clear H;have p359:0≤(x9_1:Int):=md_
   have q359:x9_1<(l1.length:Int):=md_
   obtain ⟨ad359,e359,hx359_0⟩:=Kd.at_string HR1.out x9_1 p359 q359;cases e359;replace p359:=eq_true p359;replace q359:=eq_true q359;go_wp2;go_roundg k1
   case measure=>
    have:=HK1.out
    omega
   case rel=>exact ⟨(wrap64 (x9_1+1)),mq_,H',⟨by have:=HK1.out;omega⟩,by repeat (first|exact x4_.refl _|apply x4_.step)⟩
 ·rw [if_neg c3] at H;have c3b0:=cf_ c3;clear c3;obtain rfl:=oi_ H;go_wp2;go_ret;exact ⟨by first|rfl|(simp;done)|(simp [*];done),by repeat (first|exact x4_.refl _|apply x4_.step)⟩
def y1_.l0:Nat→List (S161)→Int→Option (Int)
 | 0,_,_=>none
 | k+1,x0,x1=>if 0≤x1 then (if x1<(x0.length:Int) then (if ((z2_ x0 x1).f0)=2 then (y1_.l0 k x0 ((z2_ x0 x1).f4)) else (some x1)) else (none)) else (none)
def y1_.f (k:Nat) (l0:List (S161)) (a1:Int):Option (Int):=y1_.l0 k l0 a1
theorem y1_.y6_:∀k,(∀y0 y1,LeO (y1_.l0 k y0 y1) (y1_.l0 (k+1) y0 y1))
 | 0=>fun _ _ r h=>by simp [y1_.l0] at h
 | k+1=>by
  have ih0:=y1_.y6_ k
  ·intro y0 y1;unfold y1_.l0
   repeat' with_reducible first|apply ih0|apply LeO.refl|apply LeO.none|refine LeO.ite ?_ ?_|refine LeO.bind ?_ (fun _=>?_)
theorem y1_.mono:∀a0 a1 k,LeO (y1_.f k a0 a1) (y1_.f (k+1) a0 a1):=by
 intro a0 a1 k;have ih0:=y1_.y6_ k;unfold y1_.f
 repeat' with_reducible first|apply ih0|apply LeO.refl|apply LeO.none|refine LeO.ite ?_ ?_|refine LeO.bind ?_ (fun _=>?_)
set_option maxHeartbeats 8000000 in
set_option maxRecDepth 100000 in
theorem y1_.calls (k:Nat) (A0:Option Addr) (c0:Nat) (l0:List (S161)) (a1:Int) (r:Int) (w:World) (hr0:Kd.C k161 w A0 l0.length l0) (hc0:l0.length≤c0) (h:y1_.f k l0 a1=some r):
  Calls Tryz.prog 162 #[.slice A0 l0.length c0,.int .i64 a1] w fun e w'=>e=.returned (.int .i64 r)∧x4_ w w':=by
 have HR0:=a_ hr0;have HC0:=a_ hc0;clear hr0 hc0;have H:(y1_.l0 k l0 a1)=some r:=h
 clear h;have H':=a_ H;clear H;go_enter Tryz.func162,Tryz.ntmps162;go_wp2;go_loopg [1] k (fun kq v1 w'=>∃(x1_1:Int),v1=.int .i64 x1_1∧z0_ (y1_.l0 kq l0 x1_1=some r)∧z0_ (kq≤k)∧x4_ w w')
 case atStart=>exact ⟨(a1),mq_,H',⟨Nat.le_refl _⟩,by repeat (first|exact x4_.refl _|apply x4_.step)⟩
 clear H';obtain ⟨x1_1,rfl,HA,HK1,⟨m1,rfl⟩⟩:=hrel;obtain _|k1:=gk
 ·exact absurd HA.out (by simp [y1_.l0])
 have H:=HA.out;clear HA;simp only [y1_.l0] at H;by_cases c3:0≤x1_1
 case neg=>
  rw [if_neg c3] at H;cases H
 rw [if_pos c3] at H;have c3b0:=ct_ c3;clear c3;by_cases c4:x1_1<(l0.length:Int)
 case neg=>
  rw [if_neg c4] at H;cases H
 rw [if_pos c4] at H;have c4b0:=ct_ c4;clear c4;by_cases c5:((z2_ l0 x1_1).f0)=2
 ·rw [if_pos c5] at H;obtain ⟨c5b0,c5b1⟩:=bq_ c5;clear c5;have H':=a_ H;clear H;have p360:0≤(x1_1:Int):=md_
  have q360:x1_1<(l0.length:Int):=md_
  obtain ⟨ad360,e360,hx360_0,hx360_1,hx360_2,hx360_3,hx360_4,hx360_5,hx360_6,hx360_7⟩:=at_T161 HR0.out x1_1 p360 q360;cases e360;replace p360:=eq_true p360;replace q360:=eq_true q360;have p361:0≤(x1_1:Int):=md_
  have q361:x1_1<(l0.length:Int):=md_
  obtain ⟨ad361,e361,hx361_0,hx361_1,hx361_2,hx361_3,hx361_4,hx361_5,hx361_6,hx361_7⟩:=at_T161 HR0.out x1_1 p361 q361;obtain rfl:ad360=ad361:=(by injection e361);replace p361:=eq_true p361;replace q361:=eq_true q361;go_wp2;go_roundg k1
  case measure=>
   have:=HK1.out
   omega
  case rel=>exact ⟨((z2_ l0 x1_1).f4),mq_,H',⟨by have:=HK1.out;omega⟩,by repeat (first|exact x4_.refl _|apply x4_.step)⟩
 ·rw [if_neg c5] at H;obtain ⟨c5b0,c5b1⟩:=bn_ c5;obtain rfl:=oi_ H;have p360:0≤(x1_1:Int):=md_
  have q360:x1_1<(l0.length:Int):=md_
  obtain ⟨ad360,e360,hx360_0,hx360_1,hx360_2,hx360_3,hx360_4,hx360_5,hx360_6,hx360_7⟩:=at_T161 HR0.out x1_1 p360 q360;cases e360;replace p360:=eq_true p360;replace q360:=eq_true q360;go_wp2;go_ret;exact ⟨by first|rfl|(simp;done)|(simp [*];done),by repeat (first|exact x4_.refl _|apply x4_.step)⟩
def spec_l2Ariths.f  : Option (List ByteArray):=some (([(⟨#[43]⟩:ByteArray),(⟨#[45]⟩:ByteArray),(⟨#[42]⟩:ByteArray),(⟨#[47]⟩:ByteArray),(⟨#[37]⟩:ByteArray)]:List ByteArray))
set_option maxHeartbeats 8000000 in
set_option maxRecDepth 100000 in
theorem spec_l2Ariths.calls  (r:List ByteArray) (w:World) (h:spec_l2Ariths.f  = some r):
  Calls Tryz.prog 182 #[] w fun e w'=>∃v0_:Value,e=.returned (v0_)∧Kd.R Kd.string 9 w' w.heap.size (fun _=>True) v0_ r∧Below w.heap.size w w':=by
 have HB:=a_ (Below.refl w.heap.size w);have H:=h;unfold spec_l2Ariths.f at H
 clear h;obtain ⟨y362,hy362⟩:∃y_:List ByteArray,y_=(([(⟨#[43]⟩:ByteArray),(⟨#[45]⟩:ByteArray),(⟨#[42]⟩:ByteArray),(⟨#[47]⟩:ByteArray),(⟨#[37]⟩:ByteArray)]:List ByteArray)):=⟨_,rfl⟩;rw [←hy362] at H;(try rw [Option.bind_some] at H);have Ny362:=a_ hy362;clear hy362;obtain rfl:=oi_ H;go_enter Tryz.func182,Tryz.ntmps182;go_wp2_with (first|((with_reducible refine zl_ (N:=1) rfl ?_);refine Kd.R_lit Kd.string _ 9 ?hg (N:=1) ?hd (xs:=([(⟨#[43]⟩:ByteArray),(⟨#[45]⟩:ByteArray),(⟨#[42]⟩:ByteArray),(⟨#[47]⟩:ByteArray),(⟨#[37]⟩:ByteArray)]:List ByteArray)) (inner:=[.string (⟨#[43]⟩:ByteArray),.string (⟨#[45]⟩:ByteArray),.string (⟨#[42]⟩:ByteArray),.string (⟨#[47]⟩:ByteArray),.string (⟨#[37]⟩:ByteArray)]) (ok:=fun _=>True) (okp:=fun _=>True) ?hr ?hp (fun _ hk=>hk) trivial (Below.refl _ _) (Nat.le_refl _) (by simp) ?_;(case hd=>rfl);(case hg=>rfl);(case hr=>first|(go_simp;done)|(go_simp;rfl));(case hp=>exact (Reps.one (show Kd.M Kd.string _ _ _ (⟨#[43]⟩:ByteArray) [.string (⟨#[43]⟩:ByteArray)] from rfl) (Reps.one (show Kd.M Kd.string _ _ _ (⟨#[45]⟩:ByteArray) [.string (⟨#[45]⟩:ByteArray)] from rfl) (Reps.one (show Kd.M Kd.string _ _ _ (⟨#[42]⟩:ByteArray) [.string (⟨#[42]⟩:ByteArray)] from rfl) (Reps.one (show Kd.M Kd.string _ _ _ (⟨#[47]⟩:ByteArray) [.string (⟨#[47]⟩:ByteArray)] from rfl) (Reps.one (show Kd.M Kd.string _ _ _ (⟨#[37]⟩:ByteArray) [.string (⟨#[37]⟩:ByteArray)] from rfl) (Reps.none _ _)))))));intro v363 wx ho2 hb hg_ hnew_;clear hg_ hnew_;(first|rw [←Ny362.out] at ho2|(simp only [Int.reduceToNat] at ho2;rw [←Ny362.out] at ho2));have HO364:=a_ (Kd.R_lower ho2 (zw_ (mb_ HB)));replace HB:=ms_ HB hb;clear hb ho2));go_ret;exact ⟨_,me_,mo_ HO364.out,mb_ HB⟩
def yu_.f:Nat→List (S161)→Int→Option (Int)
 | 0,_,_=>none
 | k+1,l0,a1=>if 0≤a1 then (if a1<(l0.length:Int) then (if ((z2_ l0 a1).f0)=2 then ((yu_.f k l0 ((z2_ l0 a1).f4)).bind fun t367=>((yu_.f k l0 ((z2_ l0 a1).f5)).bind fun t369=>(if t367<t369 then (some (wrap64 (t369+1))) else (some (wrap64 (t367+1)))))) else (some 0)) else (none)) else (none)
theorem yu_.y6_:∀k,(∀y0 y1,LeO (yu_.f k y0 y1) (yu_.f (k+1) y0 y1))
 | 0=>fun _ _ r h=>by simp [yu_.f] at h
 | k+1=>by
  have ih0:=yu_.y6_ k
  ·intro y0 y1;unfold yu_.f
   repeat' with_reducible first|apply ih0|apply LeO.refl|apply LeO.none|refine LeO.ite ?_ ?_|refine LeO.bind ?_ (fun _=>?_)
theorem yu_.mono:∀a0 a1 k,LeO (yu_.f k a0 a1) (yu_.f (k+1) a0 a1):=by
 intro a0 a1 k;have ih0:=yu_.y6_ k;exact ih0 a0 a1
theorem udc5c_0 {p:Prop} (h:p:=by
 clear c8;obtain rfl:=oi_ H;have p365:0≤(a1:Int):=md_
 have q365:a1<(l0.length:Int):=md_
 obtain ⟨ad365,e365,hx365_0,hx365_1,hx365_2,hx365_3,hx365_4,hx365_5,hx365_6,hx365_7⟩:=at_T161 HR0.out a1 p365 q365;cases e365;replace p365:=eq_true p365;replace q365:=eq_true q365;have p366:0≤(a1:Int):=md_
 have q366:a1<(l0.length:Int):=md_
 obtain ⟨ad366,e366,hx366_0,hx366_1,hx366_2,hx366_3,hx366_4,hx366_5,hx366_6,hx366_7⟩:=at_T161 HR0.out a1 p366 q366;obtain rfl:ad365=ad366:=(by injection e366);replace p366:=eq_true p366;replace q366:=eq_true q366;go_enter Tryz.func183,Tryz.ntmps183;go_wp2_with (first|((with_reducible refine zg_ (f:=183) rfl ?_);refine xf_ (some 19) rfl rfl Tryz.func183 (by kernel_rfl) rfl #[.slice (some ad365) l0.length c0,.int .i64 ((z2_ l0 a1).f4)] rfl mw_ ?_;(with_reducible refine (ih k (by omega) _ _ l0 ((z2_ l0 a1).f4) t367 _ ?side1 HC0.out A6.out).mono ?_);(case side1=>repeat (first|exact HR0.out|(with_reducible refine Kd.C_alloc ?_ _)|(with_reducible refine Kd.C_drewN ?_ _)|(with_reducible refine Kd.C_drew ?_)));rintro e w' ⟨rfl,⟨nd,rfl⟩⟩;refine ⟨_,rfl,?_⟩;have p368:0≤(a1:Int):=md_;have q368:a1<(l0.length:Int):=md_;obtain ⟨ad368,e368,hx368_0,hx368_1,hx368_2,hx368_3,hx368_4,hx368_5,hx368_6,hx368_7⟩:=at_T161 HR0.out a1 p368 q368;obtain rfl:ad365=ad368:=(by injection e368);replace p368:=eq_true p368;replace q368:=eq_true q368)|((with_reducible refine zg_ (f:=183) rfl ?_);refine xf_ (some 26) rfl rfl Tryz.func183 (by kernel_rfl) rfl #[.slice (some ad365) l0.length c0,.int .i64 ((z2_ l0 a1).f5)] rfl mw_ ?_;(with_reducible refine (ih k (by omega) _ _ l0 ((z2_ l0 a1).f5) t369 _ ?side1 HC0.out A7.out).mono ?_);(case side1=>repeat (first|exact HR0.out|(with_reducible refine Kd.C_alloc ?_ _)|(with_reducible refine Kd.C_drewN ?_ _)|(with_reducible refine Kd.C_drew ?_)));rintro e w' ⟨rfl,⟨nd,rfl⟩⟩;refine ⟨_,rfl,?_⟩));go_ret;exact ⟨by first|rfl|(simp;done)|(simp [*];done),by repeat (first|exact x4_.refl _|apply x4_.step)⟩):p:=h
set_option maxHeartbeats 8000000 in
set_option maxRecDepth 100000 in
theorem yu_.calls (k:Nat):∀(A0:Option Addr) (c0:Nat) (l0:List (S161)) (a1:Int) (r:Int) (w:World) (hr0:Kd.C k161 w A0 l0.length l0) (hc0:l0.length≤c0) (h:yu_.f k l0 a1=some r),
  Calls Tryz.prog 183 #[.slice A0 l0.length c0,.int .i64 a1] w fun e w'=>e=.returned (.int .i64 r)∧x4_ w w':=by
 induction k using Nat.strongRecOn with
 | _ k ih=>
 intro A0 c0 l0 a1 r w hr0 hc0 h;cases k with
 | zero=>exact absurd h (by simp [yu_.f])
 | succ k=>
 simp only [yu_.f] at h;have HR0:=a_ hr0;have HC0:=a_ hc0;clear hr0 hc0;have H:(if 0≤a1 then (if a1<(l0.length:Int) then (if ((z2_ l0 a1).f0)=2 then ((yu_.f k l0 ((z2_ l0 a1).f4)).bind fun t367=>((yu_.f k l0 ((z2_ l0 a1).f5)).bind fun t369=>(if t367<t369 then (some (wrap64 (t369+1))) else (some (wrap64 (t367+1)))))) else (some 0)) else (none)) else (none))=some r:=h
 clear h;by_cases c3:0≤a1
 case neg=>
  rw [if_neg c3] at H;cases H
 rw [if_pos c3] at H;have c3b0:=ct_ c3;clear c3;by_cases c4:a1<(l0.length:Int)
 case neg=>
  rw [if_neg c4] at H;cases H
 rw [if_pos c4] at H;have c4b0:=ct_ c4;clear c4;by_cases c5:((z2_ l0 a1).f0)=2
 ·rw [if_pos c5] at H;obtain ⟨c5b0,c5b1⟩:=bq_ c5;clear c5;obtain ⟨t367,A6,H⟩:=ob_ H;obtain ⟨t369,A7,H⟩:=ob_ H;by_cases c8:t367<t369
  ·rw [if_pos c8] at H;have c8b0:=ct_ c8;exact udc5c_0
  ·rw [if_neg c8] at H;have c8b0:=cf_ c8;exact udc5c_0
 ·rw [if_neg c5] at H;obtain ⟨c5b0,c5b1⟩:=bn_ c5;obtain rfl:=oi_ H;have p365:0≤(a1:Int):=md_
  have q365:a1<(l0.length:Int):=md_
  obtain ⟨ad365,e365,hx365_0,hx365_1,hx365_2,hx365_3,hx365_4,hx365_5,hx365_6,hx365_7⟩:=at_T161 HR0.out a1 p365 q365;cases e365;replace p365:=eq_true p365;replace q365:=eq_true q365;go_enter Tryz.func183,Tryz.ntmps183;go_wp2;go_ret;exact ⟨by first|rfl|(simp;done)|(simp [*];done),by repeat (first|exact x4_.refl _|apply x4_.step)⟩
mutual
def za_.j0:Nat→List (S161)→Int→Bool→Int→Int→ByteArray→Int→Int→ByteArray→Int→Int→Option (Bool)
 | 0,_,_,_,_,_,_,_,_,_,_,_=>none
 | k+1,x0,x1,x6,x372000,x372001,x372002,x372003,x372004,x372005,x372006,x372007=>if x372000=0 then (if x6=true then (if x372002.toList=([]:List UInt8) then ((xj_.f k x372003 x372004 x372005).bind fun t372=>(some t372)) else (some false)) else (some false)) else (if x372000=1 then (if x6=true then ((z8_.f k x372002).bind fun t373=>(if t373=true then ((wa_.f x372003 x372004 x372005).bind fun t374=>(some t374)) else (some false))) else (some false)) else (if x372000=2 then ((spec_l2Ariths.f).bind fun t378=>((yl_.f k (strOfNums (([x372001]:List Int))) t378).bind fun t381=>(if t381=true then (if x372002.toList=([]:List UInt8) then ((wa_.f x372003 x372004 x372005).bind fun t382=>(if t382=true then (if x372007=(wrap64 (x1-1)) then (if x372007<0 then (za_.j1 k x0 x1 true x372000 x372001 x372002 x372003 x372004 x372005 x372006 x372007) else (za_.j1 k x0 x1 (decide (x372006<0)) x372000 x372001 x372002 x372003 x372004 x372005 x372006 x372007)) else (za_.j1 k x0 x1 true x372000 x372001 x372002 x372003 x372004 x372005 x372006 x372007)) else (za_.j1 k x0 x1 true x372000 x372001 x372002 x372003 x372004 x372005 x372006 x372007))) else (za_.j1 k x0 x1 true x372000 x372001 x372002 x372003 x372004 x372005 x372006 x372007)) else (za_.j1 k x0 x1 true x372000 x372001 x372002 x372003 x372004 x372005 x372006 x372007)))) else (some false)))
def za_.j1:Nat→List (S161)→Int→Bool→Int→Int→ByteArray→Int→Int→ByteArray→Int→Int→Option (Bool)
 | 0,_,_,_,_,_,_,_,_,_,_,_=>none
 | k+1,x0,x1,x88,x372000,x372001,x372002,x372003,x372004,x372005,x372006,x372007=>if x88=true then (some false) else ((y1_.f k x0 x372007).bind fun t383=>(if x372006=(wrap64 (t383-1)) then ((yu_.f k x0 x1).bind fun t384=>(some (decide (t384≤20)))) else (some false)))
end
def za_.f (k:Nat) (l0:List (S161)) (a1:Int):Option (Bool):=if 0≤a1 then (if a1<(l0.length:Int) then (if ((z2_ l0 a1).f1)=0 then (if ((z2_ l0 a1).f4)=0 then (za_.j0 k l0 a1 (((z2_ l0 a1).f5)==0) ((z2_ l0 a1).f0) ((z2_ l0 a1).f1) ((z2_ l0 a1).f2) ((z2_ l0 a1).f3.f0) ((z2_ l0 a1).f3.f1) ((z2_ l0 a1).f3.f2) ((z2_ l0 a1).f4) ((z2_ l0 a1).f5)) else (za_.j0 k l0 a1 false ((z2_ l0 a1).f0) ((z2_ l0 a1).f1) ((z2_ l0 a1).f2) ((z2_ l0 a1).f3.f0) ((z2_ l0 a1).f3.f1) ((z2_ l0 a1).f3.f2) ((z2_ l0 a1).f4) ((z2_ l0 a1).f5))) else (za_.j0 k l0 a1 false ((z2_ l0 a1).f0) ((z2_ l0 a1).f1) ((z2_ l0 a1).f2) ((z2_ l0 a1).f3.f0) ((z2_ l0 a1).f3.f1) ((z2_ l0 a1).f3.f2) ((z2_ l0 a1).f4) ((z2_ l0 a1).f5))) else (none)) else (none)
theorem za_.y6_:∀k,(∀y0 y1 y2 y3 y4 y5 y6 y7 y8 y9 y10,LeO (za_.j0 k y0 y1 y2 y3 y4 y5 y6 y7 y8 y9 y10) (za_.j0 (k+1) y0 y1 y2 y3 y4 y5 y6 y7 y8 y9 y10))∧(∀y0 y1 y2 y3 y4 y5 y6 y7 y8 y9 y10,LeO (za_.j1 k y0 y1 y2 y3 y4 y5 y6 y7 y8 y9 y10) (za_.j1 (k+1) y0 y1 y2 y3 y4 y5 y6 y7 y8 y9 y10))
 | 0=>⟨fun _ _ _ _ _ _ _ _ _ _ _ r h=>by simp [za_.j0] at h,fun _ _ _ _ _ _ _ _ _ _ _ r h=>by simp [za_.j1] at h⟩
 | k+1=>by
  obtain ⟨ih0,ih1⟩:=za_.y6_ k;refine ⟨?_,?_⟩
  ·intro y0 y1 y2 y3 y4 y5 y6 y7 y8 y9 y10;unfold za_.j0
   repeat' with_reducible first|apply ih0|apply ih1|apply z8_.mono|apply xj_.mono|apply yu_.mono|apply y1_.mono|apply yl_.mono|apply LeO.refl|apply LeO.none|refine LeO.ite ?_ ?_|refine LeO.bind ?_ (fun _=>?_)
  ·intro y0 y1 y2 y3 y4 y5 y6 y7 y8 y9 y10;unfold za_.j1
   repeat' with_reducible first|apply ih0|apply ih1|apply z8_.mono|apply xj_.mono|apply yu_.mono|apply y1_.mono|apply yl_.mono|apply LeO.refl|apply LeO.none|refine LeO.ite ?_ ?_|refine LeO.bind ?_ (fun _=>?_)
theorem za_.mono:∀a0 a1 k,LeO (za_.f k a0 a1) (za_.f (k+1) a0 a1):=by
 intro a0 a1 k;obtain ⟨ih0,ih1⟩:=za_.y6_ k;unfold za_.f
 repeat' with_reducible first|apply ih0|apply ih1|apply z8_.mono|apply xj_.mono|apply yu_.mono|apply y1_.mono|apply yl_.mono|apply LeO.refl|apply LeO.none|refine LeO.ite ?_ ?_|refine LeO.bind ?_ (fun _=>?_)
def za_.T9:Bool×List (List Nat×List Nat):=(true,[([],[]),([0],[0]),([1],[1]),([2],[2]),([],[]),([3,4,4],[3,4]),([5],[5]),([6,5],[6]),([7],[7]),([8,7],[7,8]),([9,7],[7,9]),([7,10],[7,10]),([11,7],[11]),([12],[12]),([13,12],[12,13]),([14,12,12],[12,14]),([15,12],[12,15]),([12,16],[12,16]),([17,15],[17]),([18],[18]),([19,18],[18,19]),([18],[18]),([21,18],[18,21]),([20,22,18],[18,20,22]),([18,23],[18,23]),([24,18],[24]),([25],[25]),([26,25],[25,26]),([27,25],[25,27]),([25,28],[25,28]),([29,25],[29]),([30],[30]),([31,30],[30,31]),([32,30],[30,32]),([30,33],[30,33])])
def za_.B9:List Nat:=[0,1,3,7,0,31,63,127,255,511,1023,2047,4095,8191,16383,32767,65535,131071,262143,524287,1048575,524287,2621439,8388607,16777215,33554431,67108863,134217727,268435455,536870911,1073741823,2147483647,4294967295,8589934591,17179869183]
theorem za_.tab9:rtab .any (opsOf Tryz.f159 9)=za_.T9:=by kernel_rfl
theorem za_.bits9:waitsOk za_.T9.2 za_.B9=true:=by kernel_rfl
def za_.T11:Bool×List (List Nat×List Nat):=(true,[([],[]),([0],[0]),([],[]),([],[]),([3],[3]),([2,4],[2,4]),([5],[5]),([1,6],[1,6]),([7,5],[7]),([8],[8]),([8],[8]),([9,10,8,8],[8,9,10]),([11,8],[8,11]),([8,12],[8,12]),([13,11,0,1,2,3,4,5,6,7,8,9,10,11,12,13],[13])])
def za_.B11:List Nat:=[0,1,0,0,8,28,60,127,255,511,511,2047,4095,8191,16383]
theorem za_.tab11:rtab .any (opsOf Tryz.f159 11)=za_.T11:=by kernel_rfl
theorem za_.bits11:waitsOk za_.T11.2 za_.B11=true:=by kernel_rfl
abbrev bd95_0:Array Bool:=#[f_,f_,f_,f_,f_,f_,f_,f_,f_,f_,f_,f_,f_,f_,f_,f_,f_,f_,f_,f_,f_,f_,f_,f_,f_,f_,f_,f_,f_,f_,f_,f_,f_,f_,f_]
abbrev bd95_1:Array Bool:=#[t_,f_,f_,f_,f_,f_,f_,f_,f_,f_,f_,f_,f_,f_,f_,f_,f_,f_,f_,f_,f_,f_,f_,f_,f_,f_,f_,f_,f_,f_,f_,f_,f_,f_,f_]
abbrev bd95_2:Array Bool:=#[t_,t_,f_,f_,f_,f_,f_,f_,f_,f_,f_,f_,f_,f_,f_,f_,f_,f_,f_,f_,f_,f_,f_,f_,f_,f_,f_,f_,f_,f_,f_,f_,f_,f_,f_]
abbrev bd95_3:Array Bool:=#[t_,t_,t_,t_,t_,f_,f_,f_,f_,f_,f_,f_,f_,f_,f_,f_,f_,f_,f_,f_,f_,f_,f_,f_,f_,f_,f_,f_,f_,f_,f_,f_,f_,f_,f_]
abbrev bd95_4:Array Bool:=#[t_,t_,t_,f_,f_,f_,f_,f_,f_,f_,f_,f_,f_,f_,f_,f_,f_,f_,f_,f_,f_,f_,f_,f_,f_,f_,f_,f_,f_,f_,f_,f_,f_,f_,f_]
abbrev bd95_5:Array Bool:=#[t_,t_,f_,f_,t_,f_,f_,f_,f_,f_,f_,f_,f_,f_,f_,f_,f_,f_,f_,f_,f_,f_,f_,f_,f_,f_,f_,f_,f_,f_,f_,f_,f_,f_,f_]
abbrev bd95_6:Array Bool:=#[t_,t_,t_,t_,f_,f_,f_,f_,f_,f_,f_,f_,f_,f_,f_,f_,f_,f_,f_,f_,f_,f_,f_,f_,f_,f_,f_,f_,f_,f_,f_,f_,f_,f_,f_]
abbrev bd95_7:Array Bool:=#[t_,t_,t_,f_,t_,f_,f_,f_,f_,f_,f_,f_,f_,f_,f_,f_,f_,f_,f_,f_,f_,f_,f_,f_,f_,f_,f_,f_,f_,f_,f_,f_,f_,f_,f_]
abbrev bd95_8:Array Bool:=#[t_,t_,t_,t_,t_,t_,f_,f_,f_,f_,f_,f_,f_,f_,f_,f_,f_,f_,f_,f_,f_,f_,f_,f_,f_,f_,f_,f_,f_,f_,f_,f_,f_,f_,f_]
abbrev bd95_9:Array Bool:=#[t_,t_,t_,t_,t_,t_,t_,f_,f_,f_,f_,f_,f_,f_,f_,f_,f_,f_,f_,f_,f_,f_,f_,f_,f_,f_,f_,f_,f_,f_,f_,f_,f_,f_,f_]
abbrev bd95_10:Array Bool:=#[t_,t_,t_,t_,t_,t_,t_,t_,f_,f_,f_,f_,f_,f_,f_,f_,f_,f_,f_,f_,f_,f_,f_,f_,f_,f_,f_,f_,f_,f_,f_,f_,f_,f_,f_]
abbrev bd95_11:Array Bool:=#[t_,t_,t_,t_,t_,t_,t_,t_,t_,f_,f_,f_,f_,f_,f_,f_,f_,f_,f_,f_,f_,f_,f_,f_,f_,f_,f_,f_,f_,f_,f_,f_,f_,f_,f_]
abbrev bd95_12:Array Bool:=#[t_,t_,t_,t_,t_,t_,t_,t_,t_,t_,f_,f_,f_,f_,f_,f_,f_,f_,f_,f_,f_,f_,f_,f_,f_,f_,f_,f_,f_,f_,f_,f_,f_,f_,f_]
abbrev bd95_13:Array Bool:=#[t_,t_,t_,t_,t_,t_,t_,t_,t_,t_,t_,f_,f_,f_,f_,f_,f_,f_,f_,f_,f_,f_,f_,f_,f_,f_,f_,f_,f_,f_,f_,f_,f_,f_,f_]
abbrev bd95_14:Array Bool:=#[t_,t_,t_,t_,t_,t_,t_,t_,t_,t_,t_,t_,f_,f_,f_,f_,f_,f_,f_,f_,f_,f_,f_,f_,f_,f_,f_,f_,f_,f_,f_,f_,f_,f_,f_]
abbrev bd95_15:Array Bool:=#[t_,t_,t_,t_,t_,t_,t_,t_,t_,t_,t_,t_,t_,f_,f_,f_,f_,f_,f_,f_,f_,f_,f_,f_,f_,f_,f_,f_,f_,f_,f_,f_,f_,f_,f_]
abbrev bd95_16:Array Bool:=#[t_,t_,t_,t_,t_,t_,t_,t_,t_,t_,t_,t_,t_,t_,f_,f_,f_,f_,f_,f_,f_,f_,f_,f_,f_,f_,f_,f_,f_,f_,f_,f_,f_,f_,f_]
abbrev bd95_17:Array Bool:=#[t_,t_,t_,t_,t_,t_,t_,t_,t_,t_,t_,t_,t_,t_,t_,f_,f_,f_,f_,f_,f_,f_,f_,f_,f_,f_,f_,f_,f_,f_,f_,f_,f_,f_,f_]
abbrev bd95_18:Array Bool:=#[t_,t_,t_,t_,t_,t_,t_,t_,t_,t_,t_,t_,t_,t_,t_,t_,f_,f_,f_,f_,f_,f_,f_,f_,f_,f_,f_,f_,f_,f_,f_,f_,f_,f_,f_]
abbrev bd95_19:Array Bool:=#[t_,t_,t_,t_,t_,t_,t_,t_,t_,t_,t_,t_,t_,t_,t_,t_,t_,f_,f_,f_,f_,f_,f_,f_,f_,f_,f_,f_,f_,f_,f_,f_,f_,f_,f_]
abbrev bd95_20:Array Bool:=#[t_,t_,t_,t_,t_,t_,t_,t_,t_,t_,t_,t_,t_,t_,t_,t_,t_,t_,f_,f_,f_,f_,f_,f_,f_,f_,f_,f_,f_,f_,f_,f_,f_,f_,f_]
abbrev bd95_21:Array Bool:=#[t_,t_,t_,t_,t_,t_,t_,t_,t_,t_,t_,t_,t_,t_,t_,t_,t_,t_,t_,f_,f_,f_,f_,f_,f_,f_,f_,f_,f_,f_,f_,f_,f_,f_,f_]
abbrev bd95_22:Array Bool:=#[t_,t_,t_,t_,t_,t_,t_,t_,t_,t_,t_,t_,t_,t_,t_,t_,t_,t_,t_,t_,f_,f_,f_,f_,f_,f_,f_,f_,f_,f_,f_,f_,f_,f_,f_]
abbrev bd95_23:Array Bool:=#[t_,t_,t_,t_,t_,t_,t_,t_,t_,t_,t_,t_,t_,t_,t_,t_,t_,t_,t_,t_,f_,t_,f_,f_,f_,f_,f_,f_,f_,f_,f_,f_,f_,f_,f_]
abbrev bd95_24:Array Bool:=#[t_,t_,t_,t_,t_,t_,t_,t_,t_,t_,t_,t_,t_,t_,t_,t_,t_,t_,t_,t_,f_,t_,t_,f_,f_,f_,f_,f_,f_,f_,f_,f_,f_,f_,f_]
abbrev bd95_25:Array Bool:=#[t_,t_,t_,t_,t_,t_,t_,t_,t_,t_,t_,t_,t_,t_,t_,t_,t_,t_,t_,t_,t_,t_,t_,f_,f_,f_,f_,f_,f_,f_,f_,f_,f_,f_,f_]
abbrev bd95_26:Array Bool:=#[t_,t_,t_,t_,t_,t_,t_,t_,t_,t_,t_,t_,t_,t_,t_,t_,t_,t_,t_,t_,t_,t_,t_,t_,f_,f_,f_,f_,f_,f_,f_,f_,f_,f_,f_]
abbrev bd95_27:Array Bool:=#[t_,t_,t_,t_,t_,t_,t_,t_,t_,t_,t_,t_,t_,t_,t_,t_,t_,t_,t_,t_,t_,t_,t_,t_,t_,f_,f_,f_,f_,f_,f_,f_,f_,f_,f_]
abbrev bd95_28:Array Bool:=#[t_,t_,t_,t_,t_,t_,t_,t_,t_,t_,t_,t_,t_,t_,t_,t_,t_,t_,t_,t_,t_,t_,t_,t_,t_,t_,f_,f_,f_,f_,f_,f_,f_,f_,f_]
abbrev bd95_29:Array Bool:=#[t_,t_,t_,t_,t_,t_,t_,t_,t_,t_,t_,t_,t_,t_,t_,t_,t_,t_,t_,t_,t_,t_,t_,t_,t_,t_,t_,f_,f_,f_,f_,f_,f_,f_,f_]
abbrev bd95_30:Array Bool:=#[t_,t_,t_,t_,t_,t_,t_,t_,t_,t_,t_,t_,t_,t_,t_,t_,t_,t_,t_,t_,t_,t_,t_,t_,t_,t_,t_,t_,f_,f_,f_,f_,f_,f_,f_]
abbrev bd95_31:Array Bool:=#[t_,t_,t_,t_,t_,t_,t_,t_,t_,t_,t_,t_,t_,t_,t_,t_,t_,t_,t_,t_,t_,t_,t_,t_,t_,t_,t_,t_,t_,f_,f_,f_,f_,f_,f_]
abbrev bd95_32:Array Bool:=#[t_,t_,t_,t_,t_,t_,t_,t_,t_,t_,t_,t_,t_,t_,t_,t_,t_,t_,t_,t_,t_,t_,t_,t_,t_,t_,t_,t_,t_,t_,f_,f_,f_,f_,f_]
abbrev bd95_33:Array Bool:=#[t_,t_,t_,t_,t_,t_,t_,t_,t_,t_,t_,t_,t_,t_,t_,t_,t_,t_,t_,t_,t_,t_,t_,t_,t_,t_,t_,t_,t_,t_,t_,f_,f_,f_,f_]
abbrev bd95_34:Array Bool:=#[t_,t_,t_,t_,t_,t_,t_,t_,t_,t_,t_,t_,t_,t_,t_,t_,t_,t_,t_,t_,t_,t_,t_,t_,t_,t_,t_,t_,t_,t_,t_,t_,f_,f_,f_]
abbrev bd95_35:Array Bool:=#[t_,t_,t_,t_,t_,t_,t_,t_,t_,t_,t_,t_,t_,t_,t_,t_,t_,t_,t_,t_,t_,t_,t_,t_,t_,t_,t_,t_,t_,t_,t_,t_,t_,f_,f_]
abbrev bd95_36:Array Bool:=#[t_,t_,t_,t_,t_,t_,t_,t_,t_,t_,t_,t_,t_,t_,t_,t_,t_,t_,t_,t_,t_,t_,t_,t_,t_,t_,t_,t_,t_,t_,t_,t_,t_,t_,f_]
abbrev bd95_37:Array Bool:=#[t_,t_,t_,t_,t_,t_,t_,t_,t_,t_,t_,t_,t_,t_,t_,t_,t_,t_,t_,t_,t_,t_,t_,t_,t_,t_,t_,t_,t_,t_,t_,t_,t_,t_,t_]
abbrev bd95_38:Array Bool:=#[t_,t_,t_,t_,t_,t_,t_,t_,t_,t_,t_,t_,t_,t_,t_,t_,t_,t_,t_,t_,t_,f_,f_,f_,f_,f_,f_,f_,f_,f_,f_,f_,f_,f_,f_]
abbrev bd95_39:Array Bool:=#[t_,t_,t_,t_,t_,t_,t_,t_,t_,t_,t_,t_,t_,t_,t_,t_,t_,t_,t_,t_,t_,t_,f_,f_,f_,f_,f_,f_,f_,f_,f_,f_,f_,f_,f_]
abbrev bd95_40:Array Bool:=#[f_,f_,f_,f_,f_,f_,f_,f_,f_,f_,f_,f_,f_,f_,f_]
abbrev bd95_41:Array Bool:=#[t_,f_,f_,f_,f_,f_,f_,f_,f_,f_,f_,f_,f_,f_,f_]
abbrev bd95_42:Array Bool:=#[t_,f_,t_,f_,f_,f_,f_,f_,f_,f_,f_,f_,f_,f_,f_]
abbrev bd95_43:Array Bool:=#[t_,f_,t_,t_,f_,f_,f_,f_,f_,f_,f_,f_,f_,f_,f_]
abbrev bd95_44:Array Bool:=#[t_,t_,t_,t_,f_,f_,f_,f_,f_,f_,f_,f_,f_,f_,f_]
abbrev bd95_45:Array Bool:=#[t_,t_,t_,t_,t_,f_,f_,f_,f_,f_,f_,f_,f_,f_,f_]
abbrev bd95_46:Array Bool:=#[t_,t_,t_,t_,t_,t_,f_,f_,f_,f_,f_,f_,f_,f_,f_]
abbrev bd95_47:Array Bool:=#[t_,t_,t_,t_,t_,t_,t_,f_,f_,f_,f_,f_,f_,f_,f_]
abbrev bd95_48:Array Bool:=#[t_,t_,t_,t_,t_,t_,t_,t_,f_,f_,f_,f_,f_,f_,f_]
abbrev bd95_49:Array Bool:=#[t_,t_,t_,t_,t_,t_,t_,t_,t_,f_,f_,f_,f_,f_,f_]
abbrev bd95_50:Array Bool:=#[t_,t_,t_,t_,t_,t_,t_,t_,t_,t_,f_,f_,f_,f_,f_]
abbrev bd95_51:Array Bool:=#[t_,t_,t_,t_,t_,t_,t_,t_,t_,t_,t_,f_,f_,f_,f_]
abbrev bd95_52:Array Bool:=#[t_,t_,t_,t_,t_,t_,t_,t_,t_,t_,t_,t_,f_,f_,f_]
abbrev bd95_53:Array Bool:=#[t_,t_,t_,t_,t_,t_,t_,t_,t_,t_,t_,t_,t_,f_,f_]
abbrev bd95_54:Array Bool:=#[t_,t_,t_,t_,t_,t_,t_,t_,t_,t_,t_,t_,t_,t_,f_]
abbrev bd95_55:Array Bool:=#[t_,t_,t_,t_,t_,t_,t_,t_,t_,t_,t_,t_,t_,t_,t_]
theorem ud95_2 {p:Prop} (h:p:=by
 obtain rfl:=oi_ H;replace hz371:=cz8 BK371;go_wp2;go_ret;exact ⟨me_,mb_ HB⟩):p:=h
theorem ud95_1 {p:Prop} (h:p:=by
 exact ⟨_,(true),mq_,H',⟨by have:=HJ4.out;first|omega|exact Nat.le_refl _⟩,⟨mc_ BK371⟩,⟨mb_ HB⟩⟩):p:=h
theorem ud95_0 {p:Prop} (h:p:=by
 obtain rfl:=oi_ H;replace hz371:=cz8 BK371;go_wp2_with (first|(go_at_call 123;(with_reducible refine (xj_.calls kj4 ((z2_ l0 a1).f3.f0) ((z2_ l0 a1).f3.f1) ((z2_ l0 a1).f3.f2) t372 _ A16.out).mono ?_);rintro e wx ⟨rfl,hb⟩;replace BK371:=mk_ BK371 hb;replace HB:=ms_ HB hb;(try clear hb))|(go_at_call 104;(with_reducible refine (z8_.calls kj4 ((z2_ l0 a1).f2) true _ A23.out).mono ?_);rintro e w' ⟨rfl,⟨nd,rfl⟩⟩)|(go_at_call 122;(with_reducible refine (wa_.calls ((z2_ l0 a1).f3.f0) ((z2_ l0 a1).f3.f1) ((z2_ l0 a1).f3.f2) t374 _ A25.out).mono ?_);rintro e wx ⟨rfl,hb⟩;replace BK371:=mk_ BK371 hb;replace HB:=ms_ HB hb;(try clear hb))|(go_at_call 104;(with_reducible refine (z8_.calls kj4 ((z2_ l0 a1).f2) false _ A23.out).mono ?_);rintro e w' ⟨rfl,⟨nd,rfl⟩⟩));go_ret;exact ⟨me_,mb_ HB⟩):p:=h
set_option maxHeartbeats 8000000 in
set_option maxRecDepth 100000 in
theorem za_.calls (k:Nat) (A0:Option Addr) (c0:Nat) (l0:List (S161)) (a1:Int) (r:Bool) (w:World) (hr0:Kd.C k161 w A0 l0.length l0) (hc0:l0.length≤c0) (h:za_.f k l0 a1=some r):
  Calls Tryz.prog 159 #[.slice A0 l0.length c0,.int .i64 a1] w fun e w'=>e=.returned (.bool r)∧Below w.heap.size w w':=by
 have hu161:=Tryz.underlying161;have hu80:=Tryz.underlying80;have HR0:=a_ hr0;have HC0:=a_ hc0;clear hr0 hc0;have HB:=a_ (Below.refl w.heap.size w);have H:=h;unfold za_.f at H
 clear h;by_cases c3:0≤a1
 case neg=>
  rw [if_neg c3] at H;cases H
 rw [if_pos c3] at H;have c3b0:=ct_ c3;clear c3;by_cases c4:a1<(l0.length:Int)
 case neg=>
  rw [if_neg c4] at H;cases H
 rw [if_pos c4] at H;have c4b0:=ct_ c4;clear c4;have HC5:=a_ H;clear H;have p370:0≤(a1:Int):=md_
 have q370:a1<(l0.length:Int):=md_
 obtain ⟨ad370,e370,hx370_0,hx370_1,hx370_2,hx370_3,hx370_4,hx370_5,hx370_6,hx370_7⟩:=at_T161 HR0.out a1 p370 q370;cases e370;replace p370:=eq_true p370;replace q370:=eq_true q370;go_enter Tryz.func159,Tryz.ntmps159;go_upto_region 2 with (first|((with_reducible refine zl_ (N:=5) rfl ?_);refine bh_ 5 #[.int .i64 0,.int .u8 0,.string (⟨#[]⟩:ByteArray),.int .i64 0,.int .i64 0,.string (⟨#[]⟩:ByteArray),.int .i64 0,.int .i64 0] 161 HB ?_;intro gb371 hg w6 BK371 GE371 hb;replace HB:=ms_ HB hb;clear hb hg;replace hz371:=cz8 BK371));(try simp only [Act.put,ps_]);go_cut [6] (fun v6 wc=>∃(kq:Nat) (x6_4:Bool),v6=.bool x6_4∧z0_ (za_.j0 kq l0 a1 x6_4 ((z2_ l0 a1).f0) ((z2_ l0 a1).f1) ((z2_ l0 a1).f2) ((z2_ l0 a1).f3.f0) ((z2_ l0 a1).f3.f1) ((z2_ l0 a1).f3.f2) ((z2_ l0 a1).f4) ((z2_ l0 a1).f5)=some r)∧z0_ (kq≤k)∧z0_ (wc.heap[gb371]?=some (.cells #[.int .i64 ((z2_ l0 a1).f0),.int .u8 ((z2_ l0 a1).f1),.string ((z2_ l0 a1).f2),.int .i64 ((z2_ l0 a1).f3.f0),.int .i64 ((z2_ l0 a1).f3.f1),.string ((z2_ l0 a1).f3.f2),.int .i64 ((z2_ l0 a1).f4),.int .i64 ((z2_ l0 a1).f5)] 161 (0,0)))∧z0_ (Below w.heap.size w wc))
 case first=>
  have H:=HC5.out;clear HC5;by_cases c8:((z2_ l0 a1).f1)=0
  ·rw [if_pos c8] at H;obtain ⟨c8b0,c8b1⟩:=bq_ c8;clear c8;(first|rw [c8b0]|(simp only [i64_w,i32_w];rw [c8b0])|skip);by_cases c9:((z2_ l0 a1).f4)=0
   ·rw [if_pos c9] at H;obtain ⟨c9b0,c9b1⟩:=bq_ c9;clear c9;have H':=a_ H;clear H;replace hz371:=cz8 BK371;go_wp2;go_meet
    case rel=>exact ⟨_,((((z2_ l0 a1).f5)==0)),mq_,H',⟨by first|omega|exact Nat.le_refl _⟩,⟨mp_ BK371⟩,⟨mb_ HB⟩⟩
   ·rw [if_neg c9] at H;obtain ⟨c9b0,c9b1⟩:=bn_ c9;have H':=a_ H;clear H;replace hz371:=cz8 BK371;go_wp2;go_meet
    case rel=>exact ⟨_,(false),mq_,H',⟨by first|omega|exact Nat.le_refl _⟩,⟨mp_ BK371⟩,⟨mb_ HB⟩⟩
  ·rw [if_neg c8] at H;obtain ⟨c8b0,c8b1⟩:=bn_ c8;(first|rw [c8b0]|(simp only [i64_w,i32_w];rw [c8b0])|skip);have H':=a_ H;clear H;replace hz371:=cz8 BK371;go_wp2;go_meet
   case rel=>exact ⟨_,(false),mq_,H',⟨by first|omega|exact Nat.le_refl _⟩,⟨mp_ BK371⟩,⟨mb_ HB⟩⟩
 clear HC5;(try clear c3b0);(try clear c4b0);(try clear hx370_0);(try clear hx370_1);(try clear hx370_2);(try clear hx370_3);(try clear hx370_4);(try clear hx370_5);(try clear hx370_6);(try clear hx370_7);(try clear p370);(try clear q370);obtain ⟨kq,x6_4,rfl,HA,HJ4,BK371,HB⟩:=hcut;obtain _|kj4:=kq
 ·exact absurd HA.out (by simp [za_.j0])
 have H:=HA.out;clear HA;simp only [za_.j0] at H;by_cases c13:((z2_ l0 a1).f0)=0
 ·rw [if_pos c13] at H;obtain ⟨c13b0,c13b1⟩:=bq_ c13;clear c13;by_cases c14:x6_4=true
  ·subst c14;rw [if_pos rfl] at H;by_cases c15:((z2_ l0 a1).f2).toList=([]:List UInt8)
   ·rw [if_pos c15] at H;obtain ⟨c15b0,c15b1⟩:=bq_ c15;clear c15;obtain ⟨t372,A16,H⟩:=ob_ H;exact ud95_0
   ·rw [if_neg c15] at H;obtain ⟨c15b0,c15b1⟩:=bn_ c15;exact ud95_2
  ·replace c14:=Bool.eq_false_iff.mpr c14;subst c14;rw [if_neg (show ¬(false=true) by decide)] at H;exact ud95_2
 ·rw [if_neg c13] at H;obtain ⟨c13b0,c13b1⟩:=bn_ c13;by_cases c21:((z2_ l0 a1).f0)=1
  ·rw [if_pos c21] at H;obtain ⟨c21b0,c21b1⟩:=bq_ c21;clear c21;by_cases c22:x6_4=true
   ·subst c22;rw [if_pos rfl] at H;obtain ⟨t373,A23,H⟩:=ob_ H;by_cases c24:t373=true
    ·subst c24;rw [if_pos rfl] at H;obtain ⟨t374,A25,H⟩:=ob_ H;exact ud95_0
    ·replace c24:=Bool.eq_false_iff.mpr c24;subst c24;rw [if_neg (show ¬(false=true) by decide)] at H;exact ud95_0
   ·replace c22:=Bool.eq_false_iff.mpr c22;subst c22;rw [if_neg (show ¬(false=true) by decide)] at H;exact ud95_2
  ·rw [if_neg c21] at H;obtain ⟨c21b0,c21b1⟩:=bn_ c21;by_cases c30:((z2_ l0 a1).f0)=2
   ·rw [if_pos c30] at H;obtain ⟨c30b0,c30b1⟩:=bq_ c30;clear c30;have HC31:=a_ H;clear H;replace hz371:=cz8 BK371;go_upto_region 9 with (fail);go_cut [88] (fun v88 wc=>∃(kq:Nat) (x88_30:Bool),v88=.bool x88_30∧z0_ (za_.j1 kq l0 a1 x88_30 ((z2_ l0 a1).f0) ((z2_ l0 a1).f1) ((z2_ l0 a1).f2) ((z2_ l0 a1).f3.f0) ((z2_ l0 a1).f3.f1) ((z2_ l0 a1).f3.f2) ((z2_ l0 a1).f4) ((z2_ l0 a1).f5)=some r)∧z0_ (kq≤kj4)∧z0_ (wc.heap[gb371]?=some (.cells #[.int .i64 ((z2_ l0 a1).f0),.int .u8 ((z2_ l0 a1).f1),.string ((z2_ l0 a1).f2),.int .i64 ((z2_ l0 a1).f3.f0),.int .i64 ((z2_ l0 a1).f3.f1),.string ((z2_ l0 a1).f3.f2),.int .i64 ((z2_ l0 a1).f4),.int .i64 ((z2_ l0 a1).f5)] 161 (0,0)))∧z0_ (Below w.heap.size w wc))
    case first=>
     have H:=HC31.out;clear HC31;obtain ⟨y375,hy375⟩:∃y_:List Int,y_=(([((z2_ l0 a1).f1)]:List Int)):=⟨_,rfl⟩;rw [←hy375] at H;(try rw [Option.bind_some] at H);have Ny375:=a_ hy375;clear hy375;obtain ⟨t378,A33,H⟩:=ob_ H;obtain ⟨t381,A34,H⟩:=ob_ H;have HD:=a_ H;clear H;try go_wp2
     replace BK371:=a_ (xp_ BK371.out);replace HB:=a_ (x2_ HB.out);refine start_ (n:=35) (S:=fun w'=>w'.cell? ⟨gb371,0,none⟩=some (.int .i64 ((z2_ l0 a1).f0))∧w'.cell? ⟨gb371,1,none⟩=some (.int .u8 ((z2_ l0 a1).f1))∧w'.cell? ⟨gb371,2,none⟩=some (.string ((z2_ l0 a1).f2))∧w'.cell? ⟨gb371,3,none⟩=some (.int .i64 ((z2_ l0 a1).f3.f0))∧w'.cell? ⟨gb371,4,none⟩=some (.int .i64 ((z2_ l0 a1).f3.f1))∧w'.cell? ⟨gb371,5,none⟩=some (.string ((z2_ l0 a1).f3.f2))∧w'.cell? ⟨gb371,6,none⟩=some (.int .i64 ((z2_ l0 a1).f4))∧w'.cell? ⟨gb371,7,none⟩=some (.int .i64 ((z2_ l0 a1).f5))) (ds:=[]) bd95_0 (by kernel_rfl) rfl rfl ⟨bk_ BK371 0,bk_ BK371 1,bk_ BK371 2,bk_ BK371 3,bk_ BK371 4,bk_ BK371 5,bk_ BK371 6,bk_ BK371 7⟩ (fun hHeld=>?_);refine with_tabW za_.tab9 za_.bits9 (fun HT_ HW_=>?_);generalize wc.drew=wq0 at BK371 HB hHeld ⊢;refine pu_ 0 54 bd95_1 (ze_ HT_.out (by kernel_rfl)) ?_;refine tk_ 1 55 bd95_2 (w6_ HT_.out HW_.out (by kernel_rfl)) hHeld ?_;refine join_ (σ:=Value×Value) 30 bd95_3 (fun s_=>[(56,s_.1),(57,.string (strOfNums y375)),(58,s_.2)]) (fun s_ w'=>(w'.cell? ⟨gb371,0,none⟩=some (.int .i64 ((z2_ l0 a1).f0))∧w'.cell? ⟨gb371,1,none⟩=some (.int .u8 ((z2_ l0 a1).f1))∧w'.cell? ⟨gb371,2,none⟩=some (.string ((z2_ l0 a1).f2))∧w'.cell? ⟨gb371,3,none⟩=some (.int .i64 ((z2_ l0 a1).f3.f0))∧w'.cell? ⟨gb371,4,none⟩=some (.int .i64 ((z2_ l0 a1).f3.f1))∧w'.cell? ⟨gb371,5,none⟩=some (.string ((z2_ l0 a1).f3.f2))∧w'.cell? ⟨gb371,6,none⟩=some (.int .i64 ((z2_ l0 a1).f4))∧w'.cell? ⟨gb371,7,none⟩=some (.int .i64 ((z2_ l0 a1).f5)))∧(Kd.R (Kd.int .u8) 5 w' w.heap.size (fun _=>True) s_.1 y375)∧(Kd.R Kd.string 9 w' w.heap.size (fun _=>True) s_.2 t378)∧(w'.heap[gb371]?=some (.cells #[.int .i64 ((z2_ l0 a1).f0),.int .u8 ((z2_ l0 a1).f1),.string ((z2_ l0 a1).f2),.int .i64 ((z2_ l0 a1).f3.f0),.int .i64 ((z2_ l0 a1).f3.f1),.string ((z2_ l0 a1).f3.f2),.int .i64 ((z2_ l0 a1).f4),.int .i64 ((z2_ l0 a1).f5)] 161 (0,0)))∧(Below w.heap.size w w')) ?_ ?_
     rotate_left
     ·intro hCont;refine two_ (i:=2) (j:=4) (Ni:=some 56) (Nj:=some 58) bd95_4 bd95_5 rfl rfl rfl rfl (two_of HT_.out (by kernel_rfl)) (by decide) (by decide) (fun K hK=>?_) (fun K hK=>?_)
      ·skip;refine Kd.R_lit_step (Kd.int .u8) _ 5 ?hg (N:=56) ?hd (xs:=([((z2_ l0 a1).f1)]:List Int)) (inner:=[.int .u8 ((z2_ l0 a1).f1)]) (ok:=fun _=>True) (okp:=fun _=>True) ?hr ?hp (fun _ hk=>hk) trivial (Below.refl _ _) (Nat.le_refl _) (by simp) ?_;(case hd=>rfl);(case hg=>rfl);(case hr=>first|(go_simp;done)|(go_simp;rfl));(case hp=>exact (Reps.one (show Kd.M (Kd.int .u8) _ _ _ ((z2_ l0 a1).f1) [.int .u8 ((z2_ l0 a1).f1)] from rfl) (Reps.none _ _)));intro v376 wq1 hoq2 hb hg_ hnew_;clear hg_ hnew_;(first|rw [←Ny375.out] at hoq2|(simp only [Int.reduceToNat] at hoq2;rw [←Ny375.out] at hoq2));have HO377:=a_ (Kd.R_lower hoq2 (zw_ (mb_ HB)));replace BK371:=mk_ BK371 hb;replace HB:=ms_ HB hb;clear hb hoq2;refine hK.out _ _ (bc8 BK371) fun hHeld=>?_
       clear hK K;refine nm_ 56 ?_;refine two_ (i:=3) (j:=4) (Ni:=some 57) (Nj:=some 58) bd95_6 bd95_7 rfl rfl rfl rfl (two_of HT_.out (by kernel_rfl)) (by decide) (by decide) (fun K hK=>?_) (fun K hK=>?_)
       ·skip;have hcvq3:=own_string (P:=Tryz.prog) Tryz.underlying22 Tryz.underlying5 Tryz.underlying9 (Kd.own_of_R HO377.out);refine value_ (w1:=?_) (v:=?_) (by rfl) rfl ?_ ?_;rotate_left 2
        ·go_simp;constructor
         ·rfl
         ·rfl
        clear hcvq3;refine hK.out _ _ (bc8 BK371) fun hHeld=>?_
        clear hK K;refine nm_ 57 ?_;refine one_ (i:=4) (N:=some 58) bd95_3 rfl rfl (one_of HT_.out (by kernel_rfl)) (by decide) (fun K hK=>?_);refine goes_ Tryz.func182 (by kernel_rfl) rfl #[] (by rfl) rfl rfl mw_ ?_;with_reducible refine (spec_l2Ariths.calls  t378 _ A33.out).mono ?_
        rintro e wq4 ⟨v379,rfl,ho0,hb⟩;refine ⟨_,rfl,?_⟩;have HO380:=a_ (Kd.R_lower ho0 (zw_ (mb_ HB)));replace HO377:=ro_ HO377 hb;replace BK371:=mk_ BK371 hb;replace HB:=ms_ HB hb;(try clear hb);(try clear hb2);(try clear hk);(try clear hi);(try clear ho0);refine hK.out _ _ (bc8 BK371) fun hHeld=>?_
        clear hK K;refine nm_ 58 ?_;exact norm_ (by simp only [putAll,Act.put,ps_]) (hCont (v376,v379) _ ⟨hHeld,(mo_ HO377.out),(mo_ HO380.out),(mc_ BK371),(mb_ HB)⟩)
       ·skip;refine goes_ Tryz.func182 (by kernel_rfl) rfl #[] (by rfl) rfl rfl mw_ ?_;with_reducible refine (spec_l2Ariths.calls  t378 _ A33.out).mono ?_
        rintro e wq5 ⟨v379,rfl,ho0,hb⟩;refine ⟨_,rfl,?_⟩;have HO380:=a_ (Kd.R_lower ho0 (zw_ (mb_ HB)));replace HO377:=ro_ HO377 hb;replace BK371:=mk_ BK371 hb;replace HB:=ms_ HB hb;(try clear hb);(try clear hb2);(try clear hk);(try clear hi);(try clear ho0);refine hK.out _ _ (bc8 BK371) fun hHeld=>?_
        clear hK K;refine nm_ 58 ?_;refine one_ (i:=3) (N:=some 57) bd95_3 rfl rfl (one_of HT_.out (by kernel_rfl)) (by decide) (fun K hK=>?_);have hcvq6:=own_string (P:=Tryz.prog) Tryz.underlying22 Tryz.underlying5 Tryz.underlying9 (Kd.own_of_R HO377.out);refine value_ (w1:=?_) (v:=?_) (by rfl) rfl ?_ ?_;rotate_left 2
        ·go_simp;constructor
         ·rfl
         ·rfl
        clear hcvq6;refine hK.out _ _ (bc8 BK371) fun hHeld=>?_
        clear hK K;refine nm_ 57 ?_;exact norm_ (by simp only [putAll,Act.put,ps_]) (hCont (v376,v379) _ ⟨hHeld,(mo_ HO377.out),(mo_ HO380.out),(mc_ BK371),(mb_ HB)⟩)
      ·skip;refine goes_ Tryz.func182 (by kernel_rfl) rfl #[] (by rfl) rfl rfl mw_ ?_;with_reducible refine (spec_l2Ariths.calls  t378 _ A33.out).mono ?_
       rintro e wq1 ⟨v379,rfl,ho0,hb⟩;refine ⟨_,rfl,?_⟩;have HO380:=a_ (Kd.R_lower ho0 (zw_ (mb_ HB)));replace BK371:=mk_ BK371 hb;replace HB:=ms_ HB hb;(try clear hb);(try clear hb2);(try clear hk);(try clear hi);(try clear ho0);refine hK.out _ _ (bc8 BK371) fun hHeld=>?_
       clear hK K;refine nm_ 58 ?_;refine one_ (i:=2) (N:=some 56) bd95_7 rfl rfl (one_of HT_.out (by kernel_rfl)) (by decide) (fun K hK=>?_);refine Kd.R_lit_step (Kd.int .u8) _ 5 ?hg (N:=56) ?hd (xs:=([((z2_ l0 a1).f1)]:List Int)) (inner:=[.int .u8 ((z2_ l0 a1).f1)]) (ok:=fun _=>True) (okp:=fun _=>True) ?hr ?hp (fun _ hk=>hk) trivial (Below.refl _ _) (Nat.le_refl _) (by simp) ?_;(case hd=>rfl);(case hg=>rfl);(case hr=>first|(go_simp;done)|(go_simp;rfl));(case hp=>exact (Reps.one (show Kd.M (Kd.int .u8) _ _ _ ((z2_ l0 a1).f1) [.int .u8 ((z2_ l0 a1).f1)] from rfl) (Reps.none _ _)));intro v376 wq7 hoq8 hb hg_ hnew_;clear hg_ hnew_;(first|rw [←Ny375.out] at hoq8|(simp only [Int.reduceToNat] at hoq8;rw [←Ny375.out] at hoq8));have HO377:=a_ (Kd.R_lower hoq8 (zw_ (mb_ HB)));replace HO380:=ro_ HO380 hb;replace BK371:=mk_ BK371 hb;replace HB:=ms_ HB hb;clear hb hoq8;refine hK.out _ _ (bc8 BK371) fun hHeld=>?_
       clear hK K;refine nm_ 56 ?_;refine one_ (i:=3) (N:=some 57) bd95_3 rfl rfl (one_of HT_.out (by kernel_rfl)) (by decide) (fun K hK=>?_);have hcvq6:=own_string (P:=Tryz.prog) Tryz.underlying22 Tryz.underlying5 Tryz.underlying9 (Kd.own_of_R HO377.out);refine value_ (w1:=?_) (v:=?_) (by rfl) rfl ?_ ?_;rotate_left 2
       ·go_simp;constructor
        ·rfl
        ·rfl
       clear hcvq6;refine hK.out _ _ (bc8 BK371) fun hHeld=>?_
       clear hK K;refine nm_ 57 ?_;exact norm_ (by simp only [putAll,Act.put,ps_]) (hCont (v376,v379) _ ⟨hHeld,(mo_ HO377.out),(mo_ HO380.out),(mc_ BK371),(mb_ HB)⟩)
     rintro ⟨v376,v379⟩ wq9 ⟨hS_,h0_,h1_,h2_,h3_⟩;have n0_:z0_ (Kd.R (Kd.int .u8) 5 wq9 w.heap.size (fun _=>True) v376 y375):=⟨h0_⟩
     have n1_:z0_ (Kd.R Kd.string 9 wq9 w.heap.size (fun _=>True) v379 t378):=⟨h1_⟩
     have n2_:z0_ (wq9.heap[gb371]?=some (.cells #[.int .i64 ((z2_ l0 a1).f0),.int .u8 ((z2_ l0 a1).f1),.string ((z2_ l0 a1).f2),.int .i64 ((z2_ l0 a1).f3.f0),.int .i64 ((z2_ l0 a1).f3.f1),.string ((z2_ l0 a1).f3.f2),.int .i64 ((z2_ l0 a1).f4),.int .i64 ((z2_ l0 a1).f5)] 161 (0,0))):=⟨h2_⟩
     have n3_:z0_ (Below w.heap.size w wq9):=⟨h3_⟩
     clear BK371;clear HB;clear h0_ h1_ h2_ h3_;have HO377:=n0_;have HO380:=n1_;have BK371:=n2_;have HB:=n3_;clear n0_ n1_ n2_ n3_;have hHeld:wq9.cell? ⟨gb371,0,none⟩=some (.int .i64 ((z2_ l0 a1).f0))∧wq9.cell? ⟨gb371,1,none⟩=some (.int .u8 ((z2_ l0 a1).f1))∧wq9.cell? ⟨gb371,2,none⟩=some (.string ((z2_ l0 a1).f2))∧wq9.cell? ⟨gb371,3,none⟩=some (.int .i64 ((z2_ l0 a1).f3.f0))∧wq9.cell? ⟨gb371,4,none⟩=some (.int .i64 ((z2_ l0 a1).f3.f1))∧wq9.cell? ⟨gb371,5,none⟩=some (.string ((z2_ l0 a1).f3.f2))∧wq9.cell? ⟨gb371,6,none⟩=some (.int .i64 ((z2_ l0 a1).f4))∧wq9.cell? ⟨gb371,7,none⟩=some (.int .i64 ((z2_ l0 a1).f5)):=hS_
     obtain ⟨Aoq10,coq11,eoq12⟩:=Kd.yv_ HO380.out;(first|subst eoq12|(injection eoq12 with f1_ f2_ f3_;have f4_:=f1_.symm;have f5_:=f3_.symm;clear f1_ f2_ f3_;subst f4_;subst f5_));refine norm_ (a':=?_) ?_ ?_;rotate_left
     ·simp only [putAll,Act.put,ps_];rfl
     have H:=HD.out;clear HD;by_cases c35:t381=true
     ·subst c35;rw [if_pos rfl] at H;by_cases c36:((z2_ l0 a1).f2).toList=([]:List UInt8)
      ·rw [if_pos c36] at H;obtain ⟨c36b0,c36b1⟩:=bq_ c36;clear c36;(first|rw [c36b0]|(simp only [i64_w,i32_w];rw [c36b0])|skip);obtain ⟨t382,A37,H⟩:=ob_ H;by_cases c38:t382=true
       ·subst c38;rw [if_pos rfl] at H;by_cases c39:((z2_ l0 a1).f5)=(wrap64 (a1-1))
        ·rw [if_pos c39] at H;obtain ⟨c39b0,c39b1⟩:=bq_ c39;clear c39;have HD:=a_ H;clear H;(try simp only [c36b0,c36b1,c39b0,c39b1,c40b0]);refine one_ (i:=5) (N:=some 59) bd95_8 rfl rfl (one_of HT_.out (by kernel_rfl)) (by decide) (fun K hK=>?_);refine goes_ Tryz.func161 (by kernel_rfl) rfl #[.string (strOfNums y375),.slice Aoq10 t378.length coq11] (by rfl) rfl rfl mw_ ?_;with_reducible refine (yl_.calls kj4 (strOfNums y375) _ _ t378 true _ ?side1 ?side2 A34.out).mono ?_
         (case side1=>repeat (first|exact (Kd.yb_ HO380.out).2.2|(with_reducible refine Kd.C_alloc ?_ _)|(with_reducible refine Kd.C_drewN ?_ _)|(with_reducible refine Kd.C_drew ?_)))
         (case side2=>exact (Kd.yb_ HO380.out).2.1)
         rintro e w' ⟨rfl,⟨nd,rfl⟩⟩;refine ⟨_,rfl,?_⟩;refine hK.out _ _ (bc8 BK371) fun hHeld=>?_
         clear hK K;refine nm_ 59 ?_;refine pu_ 6 60 bd95_9 (ze_ HT_.out (by kernel_rfl)) ?_;refine pu_ 7 61 bd95_10 (ze_ HT_.out (by kernel_rfl)) ?_;refine pu_ 8 62 bd95_11 (ze_ HT_.out (by kernel_rfl)) ?_;refine tk_ 9 63 bd95_12 (w6_ HT_.out HW_.out (by kernel_rfl)) hHeld ?_;refine pu_ 10 64 bd95_13 (ze_ HT_.out (by kernel_rfl)) ?_;refine pu_ 11 65 bd95_14 (ze_ HT_.out (by kernel_rfl)) ?_;refine pu_ 12 66 bd95_15 (ze_ HT_.out (by kernel_rfl)) ?_;refine pu_ 13 67 bd95_16 (ze_ HT_.out (by kernel_rfl)) ?_;refine tk_ 14 68 bd95_17 (w6_ HT_.out HW_.out (by kernel_rfl)) hHeld ?_;refine one_ (i:=15) (N:=some 69) bd95_18 rfl rfl (one_of HT_.out (by kernel_rfl)) (by decide) (fun K hK=>?_)
         refine goes_ Tryz.func122 (by kernel_rfl) rfl #[.agg #[.int .i64 ((z2_ l0 a1).f3.f0),.int .i64 ((z2_ l0 a1).f3.f1),.string ((z2_ l0 a1).f3.f2)]] (by rfl) rfl rfl mw_ ?_;with_reducible refine (wa_.calls ((z2_ l0 a1).f3.f0) ((z2_ l0 a1).f3.f1) ((z2_ l0 a1).f3.f2) true _ A37.out).mono ?_
         rintro e wq13 ⟨rfl,hb⟩;refine ⟨_,rfl,?_⟩;replace HO377:=ro_ HO377 hb;replace HO380:=ro_ HO380 hb;replace BK371:=mk_ BK371 hb;replace HB:=ms_ HB hb;(try clear hb);(try clear hb2);(try clear hk);(try clear hi);refine hK.out _ _ (bc8 BK371) fun hHeld=>?_
         clear hK K;refine nm_ 69 ?_;refine pu_ 16 70 bd95_19 (ze_ HT_.out (by kernel_rfl)) ?_;refine pu_ 17 71 bd95_20 (ze_ HT_.out (by kernel_rfl)) ?_;refine pu_ 18 72 bd95_21 (ze_ HT_.out (by kernel_rfl)) ?_;refine pu_ 19 73 bd95_22 (ze_ HT_.out (by kernel_rfl)) ?_;refine pu_ 21 75 bd95_23 (ze_ HT_.out (by kernel_rfl)) ?_;refine pu_ 22 76 bd95_24 (ze_ HT_.out (by kernel_rfl)) ?_;refine tk_ 20 74 bd95_25 (w6_ HT_.out HW_.out (by kernel_rfl)) hHeld ?_;refine pu_ 23 77 bd95_26 (ze_ HT_.out (by kernel_rfl)) ?_;refine pu_ 24 78 bd95_27 (ze_ HT_.out (by kernel_rfl)) ?_;refine pu_ 25 79 bd95_28 (ze_ HT_.out (by kernel_rfl)) ?_;refine pu_ 26 80 bd95_29 (ze_ HT_.out (by kernel_rfl)) ?_
         refine tk_ 27 81 bd95_30 (w6_ HT_.out HW_.out (by kernel_rfl)) hHeld ?_;refine pu_ 28 82 bd95_31 (ze_ HT_.out (by kernel_rfl)) ?_;refine pu_ 29 83 bd95_32 (ze_ HT_.out (by kernel_rfl)) ?_;refine pu_ 30 84 bd95_33 (ze_ HT_.out (by kernel_rfl)) ?_;have H:=HD.out;clear HD;by_cases c40:((z2_ l0 a1).f5)<0
         ·rw [if_pos c40] at H;have c40b0:=ct_ c40;clear c40;have H':=a_ H;clear H;(try simp only [c40b0]);refine pv_ 31 85 bd95_34 (ze_ HT_.out (by kernel_rfl)) ?_;refine pv_ 32 86 bd95_35 (ze_ HT_.out (by kernel_rfl)) ?_;refine pv_ 33 87 bd95_36 (ze_ HT_.out (by kernel_rfl)) ?_;refine pu_ 34 88 bd95_37 (ze_ HT_.out (by kernel_rfl)) ?_;refine done_ (done_of HT_.out (by kernel_rfl)) ?_;try go_wp2
          go_meet
          case rel=>exact ud95_1
         ·rw [if_neg c40] at H;have c40b0:=cf_ c40;clear c40;have H':=a_ H;clear H;(try simp only [c40b0]);refine pu_ 31 85 bd95_34 (ze_ HT_.out (by kernel_rfl)) ?_;refine tk_ 32 86 bd95_35 (w6_ HT_.out HW_.out (by kernel_rfl)) hHeld ?_;refine pu_ 33 87 bd95_36 (ze_ HT_.out (by kernel_rfl)) ?_;refine pu_ 34 88 bd95_37 (ze_ HT_.out (by kernel_rfl)) ?_;refine done_ (done_of HT_.out (by kernel_rfl)) ?_;try go_wp2
          go_meet
          case rel=>exact ⟨_,(decide (((z2_ l0 a1).f4)<0)),mq_,H',⟨by have:=HJ4.out;first|omega|exact Nat.le_refl _⟩,⟨mc_ BK371⟩,⟨mb_ HB⟩⟩
        ·rw [if_neg c39] at H;obtain ⟨c39b0,c39b1⟩:=bn_ c39;have H':=a_ H;clear H;(try simp only [c36b0,c36b1,c39b0,c39b1]);refine one_ (i:=5) (N:=some 59) bd95_8 rfl rfl (one_of HT_.out (by kernel_rfl)) (by decide) (fun K hK=>?_);refine goes_ Tryz.func161 (by kernel_rfl) rfl #[.string (strOfNums y375),.slice Aoq10 t378.length coq11] (by rfl) rfl rfl mw_ ?_;with_reducible refine (yl_.calls kj4 (strOfNums y375) _ _ t378 true _ ?side1 ?side2 A34.out).mono ?_
         (case side1=>repeat (first|exact (Kd.yb_ HO380.out).2.2|(with_reducible refine Kd.C_alloc ?_ _)|(with_reducible refine Kd.C_drewN ?_ _)|(with_reducible refine Kd.C_drew ?_)))
         (case side2=>exact (Kd.yb_ HO380.out).2.1)
         rintro e w' ⟨rfl,⟨nd,rfl⟩⟩;refine ⟨_,rfl,?_⟩;refine hK.out _ _ (bc8 BK371) fun hHeld=>?_
         clear hK K;refine nm_ 59 ?_;refine pu_ 6 60 bd95_9 (ze_ HT_.out (by kernel_rfl)) ?_;refine pu_ 7 61 bd95_10 (ze_ HT_.out (by kernel_rfl)) ?_;refine pu_ 8 62 bd95_11 (ze_ HT_.out (by kernel_rfl)) ?_;refine tk_ 9 63 bd95_12 (w6_ HT_.out HW_.out (by kernel_rfl)) hHeld ?_;refine pu_ 10 64 bd95_13 (ze_ HT_.out (by kernel_rfl)) ?_;refine pu_ 11 65 bd95_14 (ze_ HT_.out (by kernel_rfl)) ?_;refine pu_ 12 66 bd95_15 (ze_ HT_.out (by kernel_rfl)) ?_;refine pu_ 13 67 bd95_16 (ze_ HT_.out (by kernel_rfl)) ?_;refine tk_ 14 68 bd95_17 (w6_ HT_.out HW_.out (by kernel_rfl)) hHeld ?_;refine one_ (i:=15) (N:=some 69) bd95_18 rfl rfl (one_of HT_.out (by kernel_rfl)) (by decide) (fun K hK=>?_)
         refine goes_ Tryz.func122 (by kernel_rfl) rfl #[.agg #[.int .i64 ((z2_ l0 a1).f3.f0),.int .i64 ((z2_ l0 a1).f3.f1),.string ((z2_ l0 a1).f3.f2)]] (by rfl) rfl rfl mw_ ?_;with_reducible refine (wa_.calls ((z2_ l0 a1).f3.f0) ((z2_ l0 a1).f3.f1) ((z2_ l0 a1).f3.f2) true _ A37.out).mono ?_
         rintro e wq13 ⟨rfl,hb⟩;refine ⟨_,rfl,?_⟩;replace HO377:=ro_ HO377 hb;replace HO380:=ro_ HO380 hb;replace BK371:=mk_ BK371 hb;replace HB:=ms_ HB hb;(try clear hb);(try clear hb2);(try clear hk);(try clear hi);refine hK.out _ _ (bc8 BK371) fun hHeld=>?_
         clear hK K;refine nm_ 69 ?_;refine pu_ 16 70 bd95_19 (ze_ HT_.out (by kernel_rfl)) ?_;refine pu_ 17 71 bd95_20 (ze_ HT_.out (by kernel_rfl)) ?_;refine pu_ 18 72 bd95_21 (ze_ HT_.out (by kernel_rfl)) ?_;refine pu_ 19 73 bd95_22 (ze_ HT_.out (by kernel_rfl)) ?_;refine pu_ 21 75 bd95_23 (ze_ HT_.out (by kernel_rfl)) ?_;refine pu_ 22 76 bd95_24 (ze_ HT_.out (by kernel_rfl)) ?_;refine tk_ 20 74 bd95_25 (w6_ HT_.out HW_.out (by kernel_rfl)) hHeld ?_;refine pu_ 23 77 bd95_26 (ze_ HT_.out (by kernel_rfl)) ?_;refine pu_ 24 78 bd95_27 (ze_ HT_.out (by kernel_rfl)) ?_;refine pu_ 25 79 bd95_28 (ze_ HT_.out (by kernel_rfl)) ?_;refine pv_ 26 80 bd95_29 (ze_ HT_.out (by kernel_rfl)) ?_
         refine pv_ 27 81 bd95_30 (ze_ HT_.out (by kernel_rfl)) ?_;refine pv_ 28 82 bd95_31 (ze_ HT_.out (by kernel_rfl)) ?_;refine pu_ 29 83 bd95_32 (ze_ HT_.out (by kernel_rfl)) ?_;refine pu_ 30 84 bd95_33 (ze_ HT_.out (by kernel_rfl)) ?_;refine pv_ 31 85 bd95_34 (ze_ HT_.out (by kernel_rfl)) ?_;refine pv_ 32 86 bd95_35 (ze_ HT_.out (by kernel_rfl)) ?_;refine pv_ 33 87 bd95_36 (ze_ HT_.out (by kernel_rfl)) ?_;refine pu_ 34 88 bd95_37 (ze_ HT_.out (by kernel_rfl)) ?_;refine done_ (done_of HT_.out (by kernel_rfl)) ?_;try go_wp2
         go_meet
         case rel=>exact ud95_1
       ·replace c38:=Bool.eq_false_iff.mpr c38;subst c38;rw [if_neg (show ¬(false=true) by decide)] at H;have H':=a_ H;clear H;(try simp only [c36b0,c36b1]);refine one_ (i:=5) (N:=some 59) bd95_8 rfl rfl (one_of HT_.out (by kernel_rfl)) (by decide) (fun K hK=>?_);refine goes_ Tryz.func161 (by kernel_rfl) rfl #[.string (strOfNums y375),.slice Aoq10 t378.length coq11] (by rfl) rfl rfl mw_ ?_;with_reducible refine (yl_.calls kj4 (strOfNums y375) _ _ t378 true _ ?side1 ?side2 A34.out).mono ?_
        (case side1=>repeat (first|exact (Kd.yb_ HO380.out).2.2|(with_reducible refine Kd.C_alloc ?_ _)|(with_reducible refine Kd.C_drewN ?_ _)|(with_reducible refine Kd.C_drew ?_)))
        (case side2=>exact (Kd.yb_ HO380.out).2.1)
        rintro e w' ⟨rfl,⟨nd,rfl⟩⟩;refine ⟨_,rfl,?_⟩;refine hK.out _ _ (bc8 BK371) fun hHeld=>?_
        clear hK K;refine nm_ 59 ?_;refine pu_ 6 60 bd95_9 (ze_ HT_.out (by kernel_rfl)) ?_;refine pu_ 7 61 bd95_10 (ze_ HT_.out (by kernel_rfl)) ?_;refine pu_ 8 62 bd95_11 (ze_ HT_.out (by kernel_rfl)) ?_;refine tk_ 9 63 bd95_12 (w6_ HT_.out HW_.out (by kernel_rfl)) hHeld ?_;refine pu_ 10 64 bd95_13 (ze_ HT_.out (by kernel_rfl)) ?_;refine pu_ 11 65 bd95_14 (ze_ HT_.out (by kernel_rfl)) ?_;refine pu_ 12 66 bd95_15 (ze_ HT_.out (by kernel_rfl)) ?_;refine pu_ 13 67 bd95_16 (ze_ HT_.out (by kernel_rfl)) ?_;refine tk_ 14 68 bd95_17 (w6_ HT_.out HW_.out (by kernel_rfl)) hHeld ?_;refine one_ (i:=15) (N:=some 69) bd95_18 rfl rfl (one_of HT_.out (by kernel_rfl)) (by decide) (fun K hK=>?_)
        refine goes_ Tryz.func122 (by kernel_rfl) rfl #[.agg #[.int .i64 ((z2_ l0 a1).f3.f0),.int .i64 ((z2_ l0 a1).f3.f1),.string ((z2_ l0 a1).f3.f2)]] (by rfl) rfl rfl mw_ ?_;with_reducible refine (wa_.calls ((z2_ l0 a1).f3.f0) ((z2_ l0 a1).f3.f1) ((z2_ l0 a1).f3.f2) false _ A37.out).mono ?_
        rintro e wq13 ⟨rfl,hb⟩;refine ⟨_,rfl,?_⟩;replace HO377:=ro_ HO377 hb;replace HO380:=ro_ HO380 hb;replace BK371:=mk_ BK371 hb;replace HB:=ms_ HB hb;(try clear hb);(try clear hb2);(try clear hk);(try clear hi);refine hK.out _ _ (bc8 BK371) fun hHeld=>?_
        clear hK K;refine nm_ 69 ?_;refine pu_ 16 70 bd95_19 (ze_ HT_.out (by kernel_rfl)) ?_;refine pu_ 17 71 bd95_20 (ze_ HT_.out (by kernel_rfl)) ?_;refine pu_ 18 72 bd95_21 (ze_ HT_.out (by kernel_rfl)) ?_;refine pv_ 19 73 bd95_22 (ze_ HT_.out (by kernel_rfl)) ?_;refine pv_ 20 74 bd95_38 (ze_ HT_.out (by kernel_rfl)) ?_;refine pv_ 21 75 bd95_39 (ze_ HT_.out (by kernel_rfl)) ?_;refine pv_ 22 76 bd95_25 (ze_ HT_.out (by kernel_rfl)) ?_;refine pv_ 23 77 bd95_26 (ze_ HT_.out (by kernel_rfl)) ?_;refine pu_ 24 78 bd95_27 (ze_ HT_.out (by kernel_rfl)) ?_;refine pu_ 25 79 bd95_28 (ze_ HT_.out (by kernel_rfl)) ?_;refine pv_ 26 80 bd95_29 (ze_ HT_.out (by kernel_rfl)) ?_
        refine pv_ 27 81 bd95_30 (ze_ HT_.out (by kernel_rfl)) ?_;refine pv_ 28 82 bd95_31 (ze_ HT_.out (by kernel_rfl)) ?_;refine pu_ 29 83 bd95_32 (ze_ HT_.out (by kernel_rfl)) ?_;refine pu_ 30 84 bd95_33 (ze_ HT_.out (by kernel_rfl)) ?_;refine pv_ 31 85 bd95_34 (ze_ HT_.out (by kernel_rfl)) ?_;refine pv_ 32 86 bd95_35 (ze_ HT_.out (by kernel_rfl)) ?_;refine pv_ 33 87 bd95_36 (ze_ HT_.out (by kernel_rfl)) ?_;refine pu_ 34 88 bd95_37 (ze_ HT_.out (by kernel_rfl)) ?_;refine done_ (done_of HT_.out (by kernel_rfl)) ?_;try go_wp2
        go_meet
        case rel=>exact ud95_1
      ·rw [if_neg c36] at H;obtain ⟨c36b0,c36b1⟩:=bn_ c36;(first|rw [c36b0]|(simp only [i64_w,i32_w];rw [c36b0])|skip);have H':=a_ H;clear H;(try simp only [c36b0,c36b1]);refine one_ (i:=5) (N:=some 59) bd95_8 rfl rfl (one_of HT_.out (by kernel_rfl)) (by decide) (fun K hK=>?_);refine goes_ Tryz.func161 (by kernel_rfl) rfl #[.string (strOfNums y375),.slice Aoq10 t378.length coq11] (by rfl) rfl rfl mw_ ?_;with_reducible refine (yl_.calls kj4 (strOfNums y375) _ _ t378 true _ ?side1 ?side2 A34.out).mono ?_
       (case side1=>repeat (first|exact (Kd.yb_ HO380.out).2.2|(with_reducible refine Kd.C_alloc ?_ _)|(with_reducible refine Kd.C_drewN ?_ _)|(with_reducible refine Kd.C_drew ?_)))
       (case side2=>exact (Kd.yb_ HO380.out).2.1)
       rintro e w' ⟨rfl,⟨nd,rfl⟩⟩;refine ⟨_,rfl,?_⟩;refine hK.out _ _ (bc8 BK371) fun hHeld=>?_
       clear hK K;refine nm_ 59 ?_;refine pu_ 6 60 bd95_9 (ze_ HT_.out (by kernel_rfl)) ?_;refine pu_ 7 61 bd95_10 (ze_ HT_.out (by kernel_rfl)) ?_;refine pu_ 8 62 bd95_11 (ze_ HT_.out (by kernel_rfl)) ?_;refine tk_ 9 63 bd95_12 (w6_ HT_.out HW_.out (by kernel_rfl)) hHeld ?_;refine pu_ 10 64 bd95_13 (ze_ HT_.out (by kernel_rfl)) ?_;refine pu_ 11 65 bd95_14 (ze_ HT_.out (by kernel_rfl)) ?_;refine pu_ 12 66 bd95_15 (ze_ HT_.out (by kernel_rfl)) ?_;refine pv_ 13 67 bd95_16 (ze_ HT_.out (by kernel_rfl)) ?_;refine pv_ 14 68 bd95_17 (ze_ HT_.out (by kernel_rfl)) ?_;refine pv_ 15 69 bd95_18 (ze_ HT_.out (by kernel_rfl)) ?_;refine pv_ 16 70 bd95_19 (ze_ HT_.out (by kernel_rfl)) ?_
       refine pu_ 17 71 bd95_20 (ze_ HT_.out (by kernel_rfl)) ?_;refine pu_ 18 72 bd95_21 (ze_ HT_.out (by kernel_rfl)) ?_;refine pv_ 19 73 bd95_22 (ze_ HT_.out (by kernel_rfl)) ?_;refine pv_ 20 74 bd95_38 (ze_ HT_.out (by kernel_rfl)) ?_;refine pv_ 21 75 bd95_39 (ze_ HT_.out (by kernel_rfl)) ?_;refine pv_ 22 76 bd95_25 (ze_ HT_.out (by kernel_rfl)) ?_;refine pv_ 23 77 bd95_26 (ze_ HT_.out (by kernel_rfl)) ?_;refine pu_ 24 78 bd95_27 (ze_ HT_.out (by kernel_rfl)) ?_;refine pu_ 25 79 bd95_28 (ze_ HT_.out (by kernel_rfl)) ?_;refine pv_ 26 80 bd95_29 (ze_ HT_.out (by kernel_rfl)) ?_;refine pv_ 27 81 bd95_30 (ze_ HT_.out (by kernel_rfl)) ?_
       refine pv_ 28 82 bd95_31 (ze_ HT_.out (by kernel_rfl)) ?_;refine pu_ 29 83 bd95_32 (ze_ HT_.out (by kernel_rfl)) ?_;refine pu_ 30 84 bd95_33 (ze_ HT_.out (by kernel_rfl)) ?_;refine pv_ 31 85 bd95_34 (ze_ HT_.out (by kernel_rfl)) ?_;refine pv_ 32 86 bd95_35 (ze_ HT_.out (by kernel_rfl)) ?_;refine pv_ 33 87 bd95_36 (ze_ HT_.out (by kernel_rfl)) ?_;refine pu_ 34 88 bd95_37 (ze_ HT_.out (by kernel_rfl)) ?_;refine done_ (done_of HT_.out (by kernel_rfl)) ?_;try go_wp2
       go_meet
       case rel=>exact ud95_1
     ·replace c35:=Bool.eq_false_iff.mpr c35;subst c35;rw [if_neg (show ¬(false=true) by decide)] at H;have H':=a_ H;clear H;refine one_ (i:=5) (N:=some 59) bd95_8 rfl rfl (one_of HT_.out (by kernel_rfl)) (by decide) (fun K hK=>?_);refine goes_ Tryz.func161 (by kernel_rfl) rfl #[.string (strOfNums y375),.slice Aoq10 t378.length coq11] (by rfl) rfl rfl mw_ ?_;with_reducible refine (yl_.calls kj4 (strOfNums y375) _ _ t378 false _ ?side1 ?side2 A34.out).mono ?_
      (case side1=>repeat (first|exact (Kd.yb_ HO380.out).2.2|(with_reducible refine Kd.C_alloc ?_ _)|(with_reducible refine Kd.C_drewN ?_ _)|(with_reducible refine Kd.C_drew ?_)))
      (case side2=>exact (Kd.yb_ HO380.out).2.1)
      rintro e w' ⟨rfl,⟨nd,rfl⟩⟩;refine ⟨_,rfl,?_⟩;refine hK.out _ _ (bc8 BK371) fun hHeld=>?_
      clear hK K;refine nm_ 59 ?_;refine pu_ 6 60 bd95_9 (ze_ HT_.out (by kernel_rfl)) ?_;refine pu_ 7 61 bd95_10 (ze_ HT_.out (by kernel_rfl)) ?_;refine pv_ 8 62 bd95_11 (ze_ HT_.out (by kernel_rfl)) ?_;refine pv_ 9 63 bd95_12 (ze_ HT_.out (by kernel_rfl)) ?_;refine pv_ 10 64 bd95_13 (ze_ HT_.out (by kernel_rfl)) ?_;refine pu_ 11 65 bd95_14 (ze_ HT_.out (by kernel_rfl)) ?_;refine pu_ 12 66 bd95_15 (ze_ HT_.out (by kernel_rfl)) ?_;refine pv_ 13 67 bd95_16 (ze_ HT_.out (by kernel_rfl)) ?_;refine pv_ 14 68 bd95_17 (ze_ HT_.out (by kernel_rfl)) ?_;refine pv_ 15 69 bd95_18 (ze_ HT_.out (by kernel_rfl)) ?_;refine pv_ 16 70 bd95_19 (ze_ HT_.out (by kernel_rfl)) ?_
      refine pu_ 17 71 bd95_20 (ze_ HT_.out (by kernel_rfl)) ?_;refine pu_ 18 72 bd95_21 (ze_ HT_.out (by kernel_rfl)) ?_;refine pv_ 19 73 bd95_22 (ze_ HT_.out (by kernel_rfl)) ?_;refine pv_ 20 74 bd95_38 (ze_ HT_.out (by kernel_rfl)) ?_;refine pv_ 21 75 bd95_39 (ze_ HT_.out (by kernel_rfl)) ?_;refine pv_ 22 76 bd95_25 (ze_ HT_.out (by kernel_rfl)) ?_;refine pv_ 23 77 bd95_26 (ze_ HT_.out (by kernel_rfl)) ?_;refine pu_ 24 78 bd95_27 (ze_ HT_.out (by kernel_rfl)) ?_;refine pu_ 25 79 bd95_28 (ze_ HT_.out (by kernel_rfl)) ?_;refine pv_ 26 80 bd95_29 (ze_ HT_.out (by kernel_rfl)) ?_;refine pv_ 27 81 bd95_30 (ze_ HT_.out (by kernel_rfl)) ?_
      refine pv_ 28 82 bd95_31 (ze_ HT_.out (by kernel_rfl)) ?_;refine pu_ 29 83 bd95_32 (ze_ HT_.out (by kernel_rfl)) ?_;refine pu_ 30 84 bd95_33 (ze_ HT_.out (by kernel_rfl)) ?_;refine pv_ 31 85 bd95_34 (ze_ HT_.out (by kernel_rfl)) ?_;refine pv_ 32 86 bd95_35 (ze_ HT_.out (by kernel_rfl)) ?_;refine pv_ 33 87 bd95_36 (ze_ HT_.out (by kernel_rfl)) ?_;refine pu_ 34 88 bd95_37 (ze_ HT_.out (by kernel_rfl)) ?_;refine done_ (done_of HT_.out (by kernel_rfl)) ?_;try go_wp2
      go_meet
      case rel=>exact ud95_1
    clear HC31;obtain ⟨kq,x88_30,rfl,HA,HJ30,BK371,HB⟩:=hcut;obtain _|kj30:=kq
    ·exact absurd HA.out (by simp [za_.j1])
    have H:=HA.out;clear HA;simp only [za_.j1] at H;by_cases c87:x88_30=true
    ·subst c87;rw [if_pos rfl] at H;obtain rfl:=oi_ H;go_wp2;go_ret;exact ⟨me_,mb_ HB⟩
    ·replace c87:=Bool.eq_false_iff.mpr c87;subst c87;rw [if_neg (show ¬(false=true) by decide)] at H;obtain ⟨t383,A88,H⟩:=ob_ H;have HD:=a_ H;clear H;try go_wp2
     replace BK371:=a_ (xp_ BK371.out);replace HB:=a_ (x2_ HB.out);refine start_ (n:=15) (S:=fun w'=>w'.cell? ⟨gb371,0,none⟩=some (.int .i64 ((z2_ l0 a1).f0))∧w'.cell? ⟨gb371,1,none⟩=some (.int .u8 ((z2_ l0 a1).f1))∧w'.cell? ⟨gb371,2,none⟩=some (.string ((z2_ l0 a1).f2))∧w'.cell? ⟨gb371,3,none⟩=some (.int .i64 ((z2_ l0 a1).f3.f0))∧w'.cell? ⟨gb371,4,none⟩=some (.int .i64 ((z2_ l0 a1).f3.f1))∧w'.cell? ⟨gb371,5,none⟩=some (.string ((z2_ l0 a1).f3.f2))∧w'.cell? ⟨gb371,6,none⟩=some (.int .i64 ((z2_ l0 a1).f4))∧w'.cell? ⟨gb371,7,none⟩=some (.int .i64 ((z2_ l0 a1).f5))) (ds:=[]) bd95_40 (by kernel_rfl) rfl rfl ⟨bk_ BK371 0,bk_ BK371 1,bk_ BK371 2,bk_ BK371 3,bk_ BK371 4,bk_ BK371 5,bk_ BK371 6,bk_ BK371 7⟩ (fun hHeld=>?_);refine with_tabW za_.tab11 za_.bits11 (fun HT_ HW_=>?_);generalize wc.drew=wq0 at BK371 HB hHeld ⊢;refine pu_ 0 89 bd95_41 (ze_ HT_.out (by kernel_rfl)) ?_;refine pu_ 2 91 bd95_42 (ze_ HT_.out (by kernel_rfl)) ?_;refine pu_ 3 92 bd95_43 (ze_ HT_.out (by kernel_rfl)) ?_;refine tk_ 1 90 bd95_44 (w6_ HT_.out HW_.out (by kernel_rfl)) hHeld ?_;refine tk_ 4 93 bd95_45 (w6_ HT_.out HW_.out (by kernel_rfl)) hHeld ?_;refine one_ (i:=5) (N:=some 94) bd95_46 rfl rfl (one_of HT_.out (by kernel_rfl)) (by decide) (fun K hK=>?_);refine goes_ Tryz.func162 (by kernel_rfl) rfl #[.slice (some ad370) l0.length c0,.int .i64 ((z2_ l0 a1).f5)] (by rfl) rfl rfl mw_ ?_;with_reducible refine (y1_.calls kj30 _ _ l0 ((z2_ l0 a1).f5) t383 _ ?side1 ?side2 A88.out).mono ?_
     (case side1=>exact mt_ HR0 HB)
     (case side2=>exact HC0.out)
     rintro e w' ⟨rfl,⟨nd,rfl⟩⟩;refine ⟨_,rfl,?_⟩;refine hK.out _ _ (bc8 BK371) fun hHeld=>?_
     clear hK K;refine nm_ 94 ?_;refine pu_ 6 95 bd95_47 (ze_ HT_.out (by kernel_rfl)) ?_;refine pu_ 7 96 bd95_48 (ze_ HT_.out (by kernel_rfl)) ?_;refine pu_ 8 97 bd95_49 (ze_ HT_.out (by kernel_rfl)) ?_;have H:=HD.out;clear HD;by_cases c89:((z2_ l0 a1).f4)=(wrap64 (t383-1))
     ·rw [if_pos c89] at H;obtain ⟨c89b0,c89b1⟩:=bq_ c89;clear c89;obtain ⟨t384,A90,H⟩:=ob_ H;obtain rfl:=oi_ H;(try simp only [c89b0,c89b1]);refine pu_ 9 98 bd95_50 (ze_ HT_.out (by kernel_rfl)) ?_;refine pu_ 10 99 bd95_51 (ze_ HT_.out (by kernel_rfl)) ?_;refine one_ (i:=11) (N:=some 100) bd95_52 rfl rfl (one_of HT_.out (by kernel_rfl)) (by decide) (fun K hK=>?_);refine goes_ Tryz.func183 (by kernel_rfl) rfl #[.slice (some ad370) l0.length c0,.int .i64 a1] (by rfl) rfl rfl mw_ ?_;with_reducible refine (yu_.calls kj30 _ _ l0 a1 t384 _ ?side1 ?side2 A90.out).mono ?_
      (case side1=>repeat (first|exact (Kd.xo_ HR0.out (mb_ HB))|(with_reducible refine Kd.C_alloc ?_ _)|(with_reducible refine Kd.C_drewN ?_ _)|(with_reducible refine Kd.C_drew ?_)))
      (case side2=>exact HC0.out)
      rintro e w' ⟨rfl,⟨nd,rfl⟩⟩;refine ⟨_,rfl,?_⟩;refine hK.out _ _ (bc8 BK371) fun hHeld=>?_
      clear hK K;refine nm_ 100 ?_;refine pu_ 12 101 bd95_53 (ze_ HT_.out (by kernel_rfl)) ?_;refine pu_ 13 102 bd95_54 (ze_ HT_.out (by kernel_rfl)) ?_;refine pu_ 14 4 bd95_55 (ze_ HT_.out (by kernel_rfl)) ?_;refine done_ (done_of HT_.out (by kernel_rfl)) ?_;try go_wp2
      go_ret;exact ⟨me_,mb_ HB⟩
     ·rw [if_neg c89] at H;obtain ⟨c89b0,c89b1⟩:=bn_ c89;obtain rfl:=oi_ H;(try simp only [c89b0,c89b1]);refine pv_ 9 98 bd95_50 (ze_ HT_.out (by kernel_rfl)) ?_;refine pv_ 10 99 bd95_51 (ze_ HT_.out (by kernel_rfl)) ?_;refine pv_ 11 100 bd95_52 (ze_ HT_.out (by kernel_rfl)) ?_;refine pv_ 12 101 bd95_53 (ze_ HT_.out (by kernel_rfl)) ?_;refine pu_ 13 102 bd95_54 (ze_ HT_.out (by kernel_rfl)) ?_;refine pu_ 14 4 bd95_55 (ze_ HT_.out (by kernel_rfl)) ?_;refine done_ (done_of HT_.out (by kernel_rfl)) ?_;try go_wp2
      go_ret;exact ⟨me_,mb_ HB⟩
   ·rw [if_neg c30] at H;obtain ⟨c30b0,c30b1⟩:=bn_ c30;exact ud95_2
end Go.Proofs.YtahambloheoebaaGreatDoor.P
namespace Go.Proofs.YtahambloheoebaaGreatDoor.P
open Go.Proofs.YtahambloheoebaaGreatDoorX
open Go.RowKit Go.Proofs.YtahambloheoebaaGreatDoorW.PrintWords Go.Proofs.YtahambloheoebaaGreatDoorW.PrintLast Go.Proofs.YtahambloheoebaaGreatDoorW.PrintMore
attribute [local go_sem] ww_ wx_ max_two min_two wc_ wb_ wu_ wv_
open Go.Proofs.YtahambloheoebaaGreatDoorX
def zn_.g (k:Nat) (es:List S161):List Int→Int→Option (Bool×Int)
 | [],n=>some (true,n)
 | x::xs,n=>if 0≤x∧x<(es.length:Int) then (y1_.f k es x).bind fun t=>if t=n then zn_.g k es xs (wrap64 (x+1)) else some (false,n) else some (false,n)
def zn_.f (k:Nat) (es:List S161) (kd K:Int) (cls:ByteArray) (xs:List Int) (n:Int):Option (Bool×Int):=
 if kd=1 then (if 6<xs.length then some (false,n) else (xi_.f k cls).bind fun g=>if g=true then (if K=0 then zn_.g k es xs n else some (false,n)) else some (false,n)) else
 if kd=2 then (if xs=[] then (if cls.toList=[] then (if K < -1000000 then some (false,n) else if 1000000<K then some (false,n) else some (true,n)) else some (false,n)) else some (false,n)) else
 if kd=3 then (if 6<xs.length then some (false,n) else if cls.toList=[] then (if K < -1000000 then some (false,n) else if 1000000<K then some (false,n) else zn_.g k es xs n) else some (false,n)) else
 if kd=4 then (if xs=[] then (if cls.toList=[] then (if K=0 then some (true,n) else some (false,n)) else some (false,n)) else some (false,n)) else some (false,n)
theorem zn_.mono_g:∀es xs n k,LeO (zn_.g k es xs n) (zn_.g (k+1) es xs n)
 | es,[],n,k=>LeO.refl _
 | es,x::xs,n,k=>by
  unfold zn_.g
  exact LeO.ite (LeO.bind (y1_.mono _ _ k) (fun t=>LeO.ite (zn_.mono_g _ _ _ k) (LeO.refl _))) (LeO.refl _)
theorem zn_.mono:∀a0 a1 a2 a3 a4 a5 k,LeO (zn_.f k a0 a1 a2 a3 a4 a5) (zn_.f (k+1) a0 a1 a2 a3 a4 a5):=by
 intro a0 a1 a2 a3 a4 a5 k;unfold zn_.f
 exact LeO.ite (LeO.ite (LeO.refl _) (LeO.bind (xi_.mono _ k) (fun _=>LeO.ite (LeO.ite (zn_.mono_g _ _ _ k) (LeO.refl _)) (LeO.refl _)))) (LeO.ite (LeO.refl _) (LeO.ite (LeO.ite (LeO.refl _) (LeO.ite (LeO.ite (LeO.refl _) (LeO.ite (LeO.refl _) (zn_.mono_g _ _ _ k))) (LeO.refl _))) (LeO.refl _)))
theorem l2_ba {a:ByteArray} (h:a.toList=[]):a=⟨#[]⟩:=by
 rw [ByteArray.toList_eq] at h;cases a with|mk x=>
 exact congrArg ByteArray.mk (Array.toList_eq_nil_iff.1 h)
theorem l2_g_cons (k:Nat) (es:List S161) (xs:List Int) (n:Int) (i:Nat) (h:i<xs.length) (p:Bool×Int) (hg:zn_.g k es (xs.drop i) n=some p):(if 0≤rd xs (i:Int)∧rd xs (i:Int)<(es.length:Int) then (y1_.f k es (rd xs (i:Int))).bind fun t=>if t=n then zn_.g k es (xs.drop (i+1)) (wrap64 (rd xs (i:Int)+1)) else some (false,n) else some (false,n))=some p:=by
 have e:rd xs (i:Int)=xs[i]:=by
  unfold rd
  simp [h]
 rw [List.drop_eq_getElem_cons h] at hg;unfold zn_.g at hg
 rw [e];exact hg
theorem u001_7 {p:Prop} (h:p:=by
 rw [if_pos c5] at h;cases h;have q5:decide (1000000<K)=true:=ct_ c5
 clear c5;go_enter Tryz.func160,Tryz.ntmps160;go_wp2;go_ret;exact ⟨rfl,HBB.out,HG.out,HG.out.size⟩):p:=h
theorem u001_6 {p:Prop} (h:p:=by
 rw [if_pos c4] at h;cases h;have q4:decide (K < -1000000)=true:=ct_ c4
 clear c4;go_enter Tryz.func160,Tryz.ntmps160;go_wp2;go_ret;exact ⟨rfl,HBB.out,HG.out,HG.out.size⟩):p:=h
theorem u001_5 {p:Prop} (h:p:=by
 rw [if_pos c1] at h;cases h;have q1:decide ((6:Int)<(xs.length:Int))=true:=decide_eq_true (by omega)
 clear c1;go_enter Tryz.func160,Tryz.ntmps160;go_wp2;go_ret;exact ⟨rfl,HBB.out,HG.out,HG.out.size⟩):p:=h
theorem u001_4 {p:Prop} (h:p:=by
 go_enter Tryz.func160,Tryz.ntmps160;go_wp2;go_ret;exact ⟨rfl,HBB.out,HG.out,HG.out.size⟩):p:=h
theorem u001_3 {p:Prop} (h:p:=by
 cases h;go_enter Tryz.func160,Tryz.ntmps160;go_wp2;go_loopg [90] 0 (fun gg v90 wr=>v90=.int .i64 0∧z0_ (wr.heap[b]?=some (.cells #[.int .i64 n] 3 (0,0)))∧z0_ (w.grownBy wr (some b)))
 case atStart=>exact ⟨rfl,HBB,HG⟩
 obtain ⟨rfl,HB2,HG2⟩:=hrel;go_wp2;go_ret;exact ⟨rfl,HB2.out,HG2.out,HG2.out.size⟩):p:=h
theorem u001_2 {p:Prop} (h:p:=by
 ·rw [if_neg c2] at h;cases h;have s1:(cls.toList==([]:List UInt8))=false:=beq_eq_false_iff_ne.mpr c2
  have s2:(cls.toList != ([]:List UInt8))=true:=bne_iff_ne.mpr c2
  have s3:cls.toList.isEmpty=false:=by simpa using c2
  clear c2;go_enter Tryz.func160,Tryz.ntmps160;go_wp2;go_ret;exact ⟨rfl,HBB.out,HG.out,HG.out.size⟩):p:=h
theorem u001_0 {p:Prop} (h:p:=by
 obtain ⟨i,m,hi,hgg,rfl,HH2,HB2,HG2,BK2⟩:=hrel;have HBW2:z0_ (Below w0.heap.size w0 wr):=⟨HB.out.grown HG2.out HB.out.size (by intro q e;injection e with e;have:=HB0.out;omega)⟩
 by_cases hlt:i<xs.length
 ·have hz:(i:Int)<(xs.length:Int):=by omega
  have hz0:(0:Int)≤(i:Int):=by omega
  obtain ⟨ad,eA,hx⟩:=Kd.at_int HX.out (i:Int) hz0 hz;subst eA;replace hx:=(HBW2.out.cell (World.block_lt_of_cell? w0 _ hx)).trans hx;have hstep:=l2_g_cons k es xs m i hlt _ HH2.out;have hb0:=cell_of_one HB2.out;have hbf:=free_of_one HB2.out;have hy3:=(z1_ BK2.out 3).trans rfl;simp only [List.getElem?_toArray,List.getElem?_cons_zero,List.getElem?_cons_succ] at hy3;have hnext:IntKind.i64.wrap ((i:Int)+1)=(i:Int)+1:=IntWalk.i64_in _ (by have:=HXL.out;omega)
  have HN:=a_ hnext;simp only [Int.toNat_natCast] at hx;generalize rd xs (i:Int)=x at *;clear hnext;by_cases d1:x<0
  ·rw [if_neg (by omega)] at hstep;cases hstep;have q1:decide (x<0)=true:=decide_eq_true d1
   clear d1;go_wp2;go_quiet (fail)
   go_wp2;go_ret;exact ⟨rfl,xa_ HB2.out _,HG2.out.trans (y9_ (y4_ (Below.refl _ _) _) _),HG2.out.size⟩
  by_cases d2:(es.length:Int)≤x
  ·rw [if_neg (by omega)] at hstep;cases hstep;have q1:decide (x<0)=false:=decide_eq_false d1
   have q2:decide ((es.length:Int)≤x)=true:=decide_eq_true d2
   clear d1 d2;go_wp2;go_quiet (fail)
   go_wp2;go_ret;exact ⟨rfl,xa_ HB2.out _,HG2.out.trans (y9_ (y4_ (Below.refl _ _) _) _),HG2.out.size⟩
  rw [if_pos (by omega)] at hstep;obtain ⟨t,ht,hs2⟩:=Option.bind_eq_some_iff.1 hstep;have HT:=a_ ht;clear ht hstep;have q1:decide (x<0)=false:=decide_eq_false d1
  have q2:decide ((es.length:Int)≤x)=false:=decide_eq_false d2
  clear d1 d2;by_cases d3:t=m
  ·rw [if_pos d3] at hs2;subst d3;have HS2:=a_ hs2;clear hs2;go_wp2;go_quiet ((go_at_call 162;refine (y1_.calls k A3 c3 es x t _ (Kd.xo_ HR.out (by repeat (first|exact HBW2.out|apply below_drew|apply y4_))) HC.out HT.out).mono ?_;rintro e w4 ⟨rfl,⟨nd,rfl⟩⟩;(try first|exact ⟨rfl,_,World.drewN_drewN _ _ _⟩|exact ⟨rfl,_,Eq.trans (World.drewN_drewN _ _ _) (congrArg (World.drewN _) (Nat.add_assoc _ _ _))⟩)))
   generalize hq:wr.drewN nq=wq;have HB4:=a_ (blk_at hq HB2.out);have BK4:=a_ (blk_at hq BK2.out);have HG4:z0_ (w.grownBy wq (some b)):=⟨by subst hq;exact HG2.out.trans (y9_ (y4_ (Below.refl _ _) _) _)⟩
   clear hq hb0 hbf hy3 hx;have hb4:=cell_of_one HB4.out;have hbf4:=free_of_one HB4.out;go_wp2;go_roundg (xs.length-(i+1))
   case measure=>omega
   case rel=>exact ⟨i+1,_,by omega,by omega,by rw [show wrap64 ((i:Int)+1)=((i+1:Nat):Int) by unfold wrap64;have:=HXL.out;omega],HS2,⟨one_setCell HB4.out⟩,⟨HG4.out.trans (grownBy_setCell' _ _ _)⟩,⟨(Below.heap_setCell _ _ _ _ (by have:=HBW.out;show w.heap.size≠b;omega)).trans BK4.out⟩⟩
  ·rw [if_neg d3] at hs2;cases hs2;have q3:(t==n')=false:=by simpa using d3
   have q4:(t != n')=true:=by simpa using d3
   clear d3;go_wp2;go_quiet ((go_at_call 162;refine (y1_.calls k A3 c3 es x t _ (Kd.xo_ HR.out (by repeat (first|exact HBW2.out|apply below_drew|apply y4_))) HC.out HT.out).mono ?_;rintro e w4 ⟨rfl,⟨nd,rfl⟩⟩;(try first|exact ⟨rfl,_,World.drewN_drewN _ _ _⟩|exact ⟨rfl,_,Eq.trans (World.drewN_drewN _ _ _) (congrArg (World.drewN _) (Nat.add_assoc _ _ _))⟩)))
   go_wp2;go_ret;exact ⟨rfl,xa_ HB2.out _,HG2.out.trans (y9_ (y4_ (Below.refl _ _) _) _),HG2.out.size⟩
 ·have hil:i=xs.length:=by omega
  subst hil;have e0:=HH2.out;rw [List.drop_length] at e0;unfold zn_.g at e0
  cases e0;clear HH2;go_wp2;go_ret;exact ⟨rfl,HB2.out,HG2.out,HG2.out.size⟩):p:=h
theorem u001_1 {p:Prop} (h:p:=by
 ·rw [if_neg c1] at h;cases h;have c3:0<xs.length:=by cases xs with|nil=>exact absurd rfl c1|cons a l=>simp
  have q2:decide ((0:Int)<(xs.length:Int))=true:=decide_eq_true (by omega)
  have q3:decide (0<xs.length)=true:=ct_ c3
  clear c1 c3;by_cases c4:6<xs.length
  ·have q1:decide ((6:Int)<(xs.length:Int))=true:=decide_eq_true (by omega)
   clear c4;exact u001_4
  ·have q1:decide ((6:Int)<(xs.length:Int))=false:=decide_eq_false (by omega)
   clear c4;exact u001_4):p:=h
set_option maxHeartbeats 8000000 in
set_option maxRecDepth 100000 in
theorem zn_.calls (k:Nat) (nm:ByteArray) (sa:Int) (A2:Option Addr) (n2 c2:Nat) (A3:Option Addr) (c3:Nat) (es:List S161) (A4:Option Addr) (n4 c4:Nat) (kd K:Int) (cls:ByteArray) (B:Option Addr) (cB:Nat) (xs:List Int) (b:Nat) (n n':Int) (r:Bool) (w0 w:World) (hB:Below w0.heap.size w0 w) (hr3:Kd.C k161 w0 A3 es.length es) (hc3:es.length≤c3) (hrx:Kd.C (Kd.int .i64) w0 B xs.length xs) (hbb:w.heap[b]?=some (.cells #[.int .i64 n] 3 (0,0))) (hb0:w0.heap.size≤b) (h:zn_.f k es kd K cls xs n=some (r,n')):
  Calls Tryz.prog 160 #[.agg #[.string nm,.int .i64 sa,.slice A2 n2 c2,.slice A3 es.length c3,.slice A4 n4 c4],.agg #[.int .i64 kd,.int .i64 K,.string cls,.slice B xs.length cB],.pointer (some ⟨b,0,none⟩)] w fun e w'=>e=.returned (.bool r)∧w'.heap[b]?=some (.cells #[.int .i64 n'] 3 (0,0))∧w.grownBy w' (some b)∧w.heap.size≤w'.heap.size:=by
 have hu:=Tryz.underlying39;have hu2:=Tryz.underlying98;have HB:=a_ hB;have HR:=a_ hr3;have HC:=a_ hc3;have HX:=a_ hrx;have HB0:=a_ hb0;have HBB:=a_ (z5_ (z5_ hbb (.cells #[.string nm,.int .i64 sa,.slice A2 n2 c2,.slice A3 es.length c3,.slice A4 n4 c4] 39)) (.cells #[.int .i64 kd,.int .i64 K,.string cls,.slice B xs.length cB] 98));have HG:=a_ (World.grownBy_alloc w (.cells #[.string nm,.int .i64 sa,.slice A2 n2 c2,.slice A3 es.length c3,.slice A4 n4 c4] 39) (some b) |>.trans (World.grownBy_alloc _ (.cells #[.int .i64 kd,.int .i64 K,.string cls,.slice B xs.length cB] 98) (some b)));have BK:=a_ (z5_ (wh_ w (.cells #[.string nm,.int .i64 sa,.slice A2 n2 c2,.slice A3 es.length c3,.slice A4 n4 c4] 39)) (.cells #[.int .i64 kd,.int .i64 K,.string cls,.slice B xs.length cB] 98));have BA:=a_ (blk_new1 w (.cells #[.string nm,.int .i64 sa,.slice A2 n2 c2,.slice A3 es.length c3,.slice A4 n4 c4] 39) (.cells #[.int .i64 kd,.int .i64 K,.string cls,.slice B xs.length cB] 98));have HBW:z0_ (b<w.heap.size):=⟨lt_of_block hbb⟩
 have HXL:z0_ (xs.length≤9223372036854775807):=⟨hrx.2.1⟩
 clear hB hr3 hc3 hrx hbb hb0;unfold zn_.f at h
 by_cases k1:kd=1
 ·subst k1;rw [if_pos rfl] at h;by_cases c1:6<xs.length
  ·exact u001_5
  rw [if_neg c1] at h;have q1:decide ((6:Int)<(xs.length:Int))=false:=decide_eq_false (by omega)
  clear c1;obtain ⟨g,hg,h⟩:=Option.bind_eq_some_iff.1 h;have HGC:=a_ hg;clear hg;cases g with
  | false=>
   rw [if_neg (by simp)] at h;cases h;go_enter Tryz.func160,Tryz.ntmps160;go_wp2_with (go_at_call 72;refine (xi_.calls k cls false _ HGC.out).mono ?_;rintro e w1 ⟨rfl,hd⟩;have HBB1:=a_ (zd_ HBB.out hd.below);have BK1:=a_ (zd_ BK.out hd.below);have HG1:=a_ (HG.out.trans (y9_ hd.below (some b)));have BA1:=zd_ BA.out hd.below;have ha0:=(z1_ BA1 0).trans rfl;have ha1:=(z1_ BA1 1).trans rfl;have ha2:=(z1_ BA1 2).trans rfl;have ha3:=(z1_ BA1 3).trans rfl;simp only [List.getElem?_toArray,List.getElem?_cons_zero,List.getElem?_cons_succ] at ha0 ha1 ha2 ha3;clear hd BA1);go_ret;exact ⟨rfl,HBB1.out,HG1.out,HG1.out.size⟩
  | true=>
  rw [if_pos rfl] at h;by_cases c2:K=0
  ·subst c2;rw [if_pos rfl] at h;have HH:z0_ (zn_.g k es (xs.drop 0) n=some (r,n')):=⟨h⟩
   clear h;go_enter Tryz.func160,Tryz.ntmps160;go_wp2_with (go_at_call 72;refine (xi_.calls k cls true _ HGC.out).mono ?_;rintro e w1 ⟨rfl,hd⟩;have HBB1:=a_ (zd_ HBB.out hd.below);have BK1:=a_ (zd_ BK.out hd.below);have HG1:=a_ (HG.out.trans (y9_ hd.below (some b)));have BA1:=zd_ BA.out hd.below;have ha0:=(z1_ BA1 0).trans rfl;have ha1:=(z1_ BA1 1).trans rfl;have ha2:=(z1_ BA1 2).trans rfl;have ha3:=(z1_ BA1 3).trans rfl;simp only [List.getElem?_toArray,List.getElem?_cons_zero,List.getElem?_cons_succ] at ha0 ha1 ha2 ha3;clear hd BA1);go_loopg [90] xs.length (fun gg v90 wr=>∃(i:Nat) (m:Int),i≤xs.length∧xs.length-i≤gg∧v90=.int .i64 (i:Int)∧z0_ (zn_.g k es (xs.drop i) m=some (r,n'))∧z0_ (wr.heap[b]?=some (.cells #[.int .i64 m] 3 (0,0)))∧z0_ (w.grownBy wr (some b))∧z0_ (wr.heap[w.heap.size]?=some (.cells #[.string nm,.int .i64 sa,.slice A2 n2 c2,.slice A3 es.length c3,.slice A4 n4 c4] 39 (0,0))))
   case atStart=>exact ⟨0,n,Nat.zero_le _,Nat.le_refl _,rfl,HH,HBB1,HG1,BK1⟩
   exact u001_0
  ·rw [if_neg c2] at h;cases h;have q3:(K==0)=false:=by simpa using c2
   have q4:(K != 0)=true:=by simpa using c2
   clear c2;go_enter Tryz.func160,Tryz.ntmps160;go_wp2_with (go_at_call 72;refine (xi_.calls k cls true _ HGC.out).mono ?_;rintro e w1 ⟨rfl,hd⟩;have HBB1:=a_ (zd_ HBB.out hd.below);have BK1:=a_ (zd_ BK.out hd.below);have HG1:=a_ (HG.out.trans (y9_ hd.below (some b)));have BA1:=zd_ BA.out hd.below;have ha0:=(z1_ BA1 0).trans rfl;have ha1:=(z1_ BA1 1).trans rfl;have ha2:=(z1_ BA1 2).trans rfl;have ha3:=(z1_ BA1 3).trans rfl;simp only [List.getElem?_toArray,List.getElem?_cons_zero,List.getElem?_cons_succ] at ha0 ha1 ha2 ha3;clear hd BA1);go_ret;exact ⟨rfl,HBB1.out,HG1.out,HG1.out.size⟩
 by_cases k2:kd=2
 ·subst k2;clear k1;rw [if_neg (by decide),if_pos rfl] at h;by_cases c1:xs=[]
  ·subst c1;rw [if_pos rfl] at h;by_cases c2:cls.toList=[]
   ·rw [if_pos c2] at h;have c3:cls=⟨#[]⟩:=l2_ba c2
    subst c3;clear c2;by_cases c4:K < -1000000
    ·exact u001_6
    rw [if_neg c4] at h;have q4:decide (K < -1000000)=false:=cf_ c4
    clear c4;by_cases c5:1000000<K
    ·exact u001_7
    rw [if_neg c5] at h;have q5:decide (1000000<K)=false:=cf_ c5
    clear c5;exact u001_3
   exact u001_2
  exact u001_1
 by_cases k3:kd=3
 ·subst k3;clear k1 k2;rw [if_neg (by decide),if_neg (by decide),if_pos rfl] at h;by_cases c1:6<xs.length
  ·exact u001_5
  rw [if_neg c1] at h;have q1:decide ((6:Int)<(xs.length:Int))=false:=decide_eq_false (by omega)
  clear c1;by_cases c2:cls.toList=[]
  ·rw [if_pos c2] at h;have c3:cls=⟨#[]⟩:=l2_ba c2
   subst c3;clear c2;by_cases c4:K < -1000000
   ·exact u001_6
   rw [if_neg c4] at h;have q4:decide (K < -1000000)=false:=cf_ c4
   clear c4;by_cases c5:1000000<K
   ·exact u001_7
   rw [if_neg c5] at h;have q5:decide (1000000<K)=false:=cf_ c5
   clear c5;have HH:z0_ (zn_.g k es (xs.drop 0) n=some (r,n')):=⟨h⟩
   clear h;go_enter Tryz.func160,Tryz.ntmps160;go_wp2;go_loopg [90] xs.length (fun gg v90 wr=>∃(i:Nat) (m:Int),i≤xs.length∧xs.length-i≤gg∧v90=.int .i64 (i:Int)∧z0_ (zn_.g k es (xs.drop i) m=some (r,n'))∧z0_ (wr.heap[b]?=some (.cells #[.int .i64 m] 3 (0,0)))∧z0_ (w.grownBy wr (some b))∧z0_ (wr.heap[w.heap.size]?=some (.cells #[.string nm,.int .i64 sa,.slice A2 n2 c2,.slice A3 es.length c3,.slice A4 n4 c4] 39 (0,0))))
   case atStart=>exact ⟨0,n,Nat.zero_le _,Nat.le_refl _,rfl,HH,HBB,HG,BK⟩
   exact u001_0
  exact u001_2
 by_cases k4:kd=4
 ·subst k4;clear k1 k2 k3;rw [if_neg (by decide),if_neg (by decide),if_neg (by decide),if_pos rfl] at h;by_cases c1:xs=[]
  ·subst c1;rw [if_pos rfl] at h;by_cases c2:cls.toList=[]
   ·rw [if_pos c2] at h;have c3:cls=⟨#[]⟩:=l2_ba c2
    subst c3;clear c2;by_cases c4:K=0
    ·subst c4;rw [if_pos rfl] at h;exact u001_3
    ·rw [if_neg c4] at h;cases h;have q4:(K==0)=false:=by simpa using c4
     have q5:(K != 0)=true:=by simpa using c4
     clear c4;go_enter Tryz.func160,Tryz.ntmps160;go_wp2;go_ret;exact ⟨rfl,HBB.out,HG.out,HG.out.size⟩
   exact u001_2
  exact u001_1
 rw [if_neg k1,if_neg k2,if_neg k3,if_neg k4] at h;cases h;have p1:(kd==1)=false:=by simpa using k1
 have p2:(kd==2)=false:=by simpa using k2
 have p3:(kd==3)=false:=by simpa using k3
 by_cases c1:kd<1
 ·have q1:decide (kd<1)=true:=ct_ c1
  clear c1 k1 k2 k3 k4;exact u001_4
 ·have q1:decide (kd<1)=false:=cf_ c1
  have q2:decide (4<kd)=true:=decide_eq_true (by omega)
  clear c1 k1 k2 k3 k4;exact u001_4
def zc_.p (k:Nat):List S42→Nat→Option Int
 | [],_=>some (-1)
 | p::ps,i=>(zo_.f k p.f0 p.f1 p.f2).bind fun g=>if g=true then zc_.p k ps (i+1) else some ((i:Int)+1)
def zc_.e (k:Nat) (es:List S161):Nat→Nat→Option Int
 | 0,_=>some (-1)
 | m+1,i=>(za_.f k es (i:Int)).bind fun g=>if g=true then zc_.e k es m (i+1) else some ((i:Int)+1)
def zc_.a (k:Nat) (es:List S161):List S98→Nat→Int→Option (Int×Int)
 | [],_,n=>some (-1,n)
 | a::as_,i,n=>(zn_.f k es a.f0 a.f1 a.f2 a.f3 n).bind fun y=>if y.1=true then zc_.a k es as_ (i+1) y.2 else some ((i:Int)+1,y.2)
def zc_.f (k:Nat) (nm:ByteArray) (sa:Int) (ps:List S42) (es:List S161) (as_:List S98):Option Int:=
 (z8_.f k nm).bind fun g=>if g=true then (if 6<ps.length then some 0 else if 8<as_.length then some 0 else if 60<es.length then some 0 else
  (zc_.p k ps 0).bind fun p=>if p=-1 then (zc_.e k es es.length 0).bind fun e=>if e=-1 then (zc_.a k es as_ 0 0).bind fun a=>if a.1=-1 then (if a.2=(es.length:Int) then some (-1) else some ((as_.length:Int)+1)) else some a.1 else some e else some p) else some 0
theorem zc_.mono_p:∀ps i k,LeO (zc_.p k ps i) (zc_.p (k+1) ps i)
 | [],i,k=>LeO.refl _
 | p::ps,i,k=>LeO.bind (zo_.mono _ _ _ k) (fun _=>LeO.ite (zc_.mono_p ps _ k) (LeO.refl _))
theorem zc_.mono_e:∀es m i k,LeO (zc_.e k es m i) (zc_.e (k+1) es m i)
 | es,0,i,k=>LeO.refl _
 | es,m+1,i,k=>LeO.bind (za_.mono _ _ k) (fun _=>LeO.ite (zc_.mono_e es m _ k) (LeO.refl _))
theorem zc_.mono_a:∀es as_ i n k,LeO (zc_.a k es as_ i n) (zc_.a (k+1) es as_ i n)
 | es,[],i,n,k=>LeO.refl _
 | es,a::as_,i,n,k=>LeO.bind (zn_.mono _ _ _ _ _ _ k) (fun _=>LeO.ite (zc_.mono_a es as_ _ _ k) (LeO.refl _))
theorem zc_.mono:∀a0 a1 a2 a3 a4 k,LeO (zc_.f k a0 a1 a2 a3 a4) (zc_.f (k+1) a0 a1 a2 a3 a4):=by
 intro a0 a1 a2 a3 a4 k;unfold zc_.f
 exact LeO.bind (z8_.mono _ k) (fun _=>LeO.ite (LeO.ite (LeO.refl _) (LeO.ite (LeO.refl _) (LeO.ite (LeO.refl _) (LeO.bind (zc_.mono_p _ _ k) (fun _=>LeO.ite (LeO.bind (zc_.mono_e _ _ _ k) (fun _=>LeO.ite (LeO.bind (zc_.mono_a _ _ _ _ k) (fun _=>LeO.refl _)) (LeO.refl _))) (LeO.refl _)))))) (LeO.refl _))
theorem l2_p_cons (k:Nat) (ps:List S42) (i:Nat) (h:i<ps.length) (p:Int) (hg:zc_.p k (ps.drop i) i=some p):((zo_.f k (zq_ ps (i:Int)).f0 (zq_ ps (i:Int)).f1 (zq_ ps (i:Int)).f2).bind fun g=>if g=true then zc_.p k (ps.drop (i+1)) (i+1) else some ((i:Int)+1))=some p:=by
 have e:zq_ ps (i:Int)=ps[i]:=by
  unfold zq_
  simp [h]
 rw [List.drop_eq_getElem_cons h] at hg;unfold zc_.p at hg
 rw [e];exact hg
theorem l2_a_cons (k:Nat) (es:List S161) (as_:List S98) (i:Nat) (n:Int) (h:i<as_.length) (p:Int×Int) (hg:zc_.a k es (as_.drop i) i n=some p):((zn_.f k es (y3_ as_ (i:Int)).f0 (y3_ as_ (i:Int)).f1 (y3_ as_ (i:Int)).f2 (y3_ as_ (i:Int)).f3 n).bind fun y=>if y.1=true then zc_.a k es (as_.drop (i+1)) (i+1) y.2 else some ((i:Int)+1,y.2))=some p:=by
 have e:y3_ as_ (i:Int)=as_[i]:=by
  unfold y3_
  simp [h]
 rw [List.drop_eq_getElem_cons h] at hg;unfold zc_.a at hg
 rw [e];exact hg
theorem l2_e_cons (k:Nat) (es:List S161) (m i:Nat) (h:i<m) (p:Int) (hg:zc_.e k es (m-i) i=some p):((za_.f k es (i:Int)).bind fun g=>if g=true then zc_.e k es (m-(i+1)) (i+1) else some ((i:Int)+1))=some p:=by
 rw [show m-i=(m-(i+1))+1 by omega] at hg;exact hg
set_option maxHeartbeats 8000000 in
set_option maxRecDepth 100000 in
theorem zc_.walk (k:Nat) (nm:ByteArray) (sa:Int) (A2:Option Addr) (c2:Nat) (ps:List S42) (A3:Option Addr) (c3:Nat) (es:List S161) (A4:Option Addr) (c4:Nat) (as_:List S98) (r:Int) (w:World) (hr2:Kd.C k42 w A2 ps.length ps) (hr3:Kd.C k161 w A3 es.length es) (hc3:es.length≤c3) (hr4:Kd.C k98 w A4 as_.length as_) (h:zc_.f k nm sa ps es as_=some r):
  Calls Tryz.prog 128 #[.agg #[.string nm,.int .i64 sa,.slice A2 ps.length c2,.slice A3 es.length c3,.slice A4 as_.length c4]] w fun e w'=>e=.returned (.int .i64 r)∧Below w.heap.size w w':=by
 have hu:=Tryz.underlying39;have hu2:=Tryz.underlying98;have hu3:=Tryz.underlying42;have HB:=a_ (z3_ (Below.refl w.heap.size w) (.cells #[.string nm,.int .i64 sa,.slice A2 ps.length c2,.slice A3 es.length c3,.slice A4 as_.length c4] 39));have BK:=a_ (wh_ w (.cells #[.string nm,.int .i64 sa,.slice A2 ps.length c2,.slice A3 es.length c3,.slice A4 as_.length c4] 39));have HR2:=a_ hr2;have HR3:=a_ hr3;have HC3:=a_ hc3;have HR4:=a_ hr4;clear hr2 hr3 hc3 hr4;unfold zc_.f at h
 obtain ⟨g,hg,h⟩:=Option.bind_eq_some_iff.1 h;have HG:=a_ hg;clear hg;cases g with
 | false=>
  rw [if_neg (by simp)] at h;cases h;go_enter Tryz.func128,Tryz.ntmps128;go_wp2_with (go_at_call 104;refine (z8_.calls k nm false _ HG.out).mono ?_;rintro e w1 ⟨rfl,hd⟩;have HB1:z0_ (Below w.heap.size w w1):=⟨y7_ HB.out hd.below⟩;clear hd);go_ret;exact ⟨rfl,HB1.out⟩
 | true=>
 rw [if_pos rfl] at h;by_cases c1:6<ps.length
 ·rw [if_pos c1] at h;cases h;have q1:decide ((6:Int)<(ps.length:Int))=true:=decide_eq_true (by omega)
  clear c1;go_enter Tryz.func128,Tryz.ntmps128;go_wp2_with (go_at_call 104;refine (z8_.calls k nm true _ HG.out).mono ?_;rintro e w1 ⟨rfl,hd⟩;have HB1:z0_ (Below w.heap.size w w1):=⟨y7_ HB.out hd.below⟩;have BK1:=a_ (zd_ BK.out hd.below);have ha0:=(z1_ BK1.out 0).trans rfl;have ha1:=(z1_ BK1.out 1).trans rfl;have ha2:=(z1_ BK1.out 2).trans rfl;have ha3:=(z1_ BK1.out 3).trans rfl;have ha4:=(z1_ BK1.out 4).trans rfl;simp only [List.getElem?_toArray,List.getElem?_cons_zero,List.getElem?_cons_succ] at ha0 ha1 ha2 ha3 ha4;clear hd);go_ret;exact ⟨rfl,HB1.out⟩
 rw [if_neg c1] at h;have q1:decide ((6:Int)<(ps.length:Int))=false:=decide_eq_false (by omega)
 by_cases c2:8<as_.length
 ·rw [if_pos c2] at h;cases h;have q2:decide ((8:Int)<(as_.length:Int))=true:=decide_eq_true (by omega)
  clear c1 c2;go_enter Tryz.func128,Tryz.ntmps128;go_wp2_with (go_at_call 104;refine (z8_.calls k nm true _ HG.out).mono ?_;rintro e w1 ⟨rfl,hd⟩;have HB1:z0_ (Below w.heap.size w w1):=⟨y7_ HB.out hd.below⟩;have BK1:=a_ (zd_ BK.out hd.below);have ha0:=(z1_ BK1.out 0).trans rfl;have ha1:=(z1_ BK1.out 1).trans rfl;have ha2:=(z1_ BK1.out 2).trans rfl;have ha3:=(z1_ BK1.out 3).trans rfl;have ha4:=(z1_ BK1.out 4).trans rfl;simp only [List.getElem?_toArray,List.getElem?_cons_zero,List.getElem?_cons_succ] at ha0 ha1 ha2 ha3 ha4;clear hd);go_ret;exact ⟨rfl,HB1.out⟩
 rw [if_neg c2] at h;have q2:decide ((8:Int)<(as_.length:Int))=false:=decide_eq_false (by omega)
 by_cases c3:60<es.length
 ·rw [if_pos c3] at h;cases h;have q3:decide ((60:Int)<(es.length:Int))=true:=decide_eq_true (by omega)
  clear c1 c2 c3;go_enter Tryz.func128,Tryz.ntmps128;go_wp2_with (go_at_call 104;refine (z8_.calls k nm true _ HG.out).mono ?_;rintro e w1 ⟨rfl,hd⟩;have HB1:z0_ (Below w.heap.size w w1):=⟨y7_ HB.out hd.below⟩;have BK1:=a_ (zd_ BK.out hd.below);have ha0:=(z1_ BK1.out 0).trans rfl;have ha1:=(z1_ BK1.out 1).trans rfl;have ha2:=(z1_ BK1.out 2).trans rfl;have ha3:=(z1_ BK1.out 3).trans rfl;have ha4:=(z1_ BK1.out 4).trans rfl;simp only [List.getElem?_toArray,List.getElem?_cons_zero,List.getElem?_cons_succ] at ha0 ha1 ha2 ha3 ha4;clear hd);go_ret;exact ⟨rfl,HB1.out⟩
 rw [if_neg c3] at h;have q3:decide ((60:Int)<(es.length:Int))=false:=decide_eq_false (by omega)
 have C1:z0_ (ps.length≤6):=⟨by omega⟩
 have C2:z0_ (as_.length≤8):=⟨by omega⟩
 have C3:z0_ (es.length≤60):=⟨by omega⟩
 clear c1 c2 c3;obtain ⟨p,hp,h⟩:=Option.bind_eq_some_iff.1 h;have HP:=a_ hp;have HH:=a_ h;clear hp h;go_enter Tryz.func128,Tryz.ntmps128;go_wp2_with (go_at_call 104;refine (z8_.calls k nm true _ HG.out).mono ?_;rintro e w1 ⟨rfl,hd⟩;have HB1:z0_ (Below w.heap.size w w1):=⟨y7_ HB.out hd.below⟩;have BK1:=a_ (zd_ BK.out hd.below);have ha0:=(z1_ BK1.out 0).trans rfl;have ha1:=(z1_ BK1.out 1).trans rfl;have ha2:=(z1_ BK1.out 2).trans rfl;have ha3:=(z1_ BK1.out 3).trans rfl;have ha4:=(z1_ BK1.out 4).trans rfl;simp only [List.getElem?_toArray,List.getElem?_cons_zero,List.getElem?_cons_succ] at ha0 ha1 ha2 ha3 ha4;clear hd);go_loopg [34] ps.length (fun gg v34 wr=>∃i:Nat,i≤ps.length∧ps.length-i≤gg∧v34=.int .i64 (i:Int)∧z0_ (zc_.p k (ps.drop i) i=some p)∧z0_ (Below w.heap.size w wr)∧z0_ (wr.heap[w.heap.size]?=some (.cells #[.string nm,.int .i64 sa,.slice A2 ps.length c2,.slice A3 es.length c3,.slice A4 as_.length c4] 39 (0,0))))
 case atStart=>exact ⟨0,Nat.zero_le _,Nat.le_refl _,rfl,HP,HB1,BK1⟩
 obtain ⟨i,hi,hgg,rfl,HP2,HB2,BK2⟩:=hrel;by_cases hlt:i<ps.length
 ·have hz:(i:Int)<(ps.length:Int):=by omega
  have hz0:(0:Int)≤(i:Int):=by omega
  obtain ⟨ad,A5,c5,e0,hx0,hx1,hx2,hl5,hC5⟩:=at_T42 HR2.out (i:Int) hz0 hz;cases e0;replace hx0:=(HB2.out.cell (World.block_lt_of_cell? w _ hx0)).trans hx0;replace hx1:=(HB2.out.cell (World.block_lt_of_cell? w _ hx1)).trans hx1;replace hx2:=(HB2.out.cell (World.block_lt_of_cell? w _ hx2)).trans hx2;simp only [Int.toNat_natCast] at hx0 hx1 hx2;have HC5:=a_ hC5;have HL5:=a_ hl5;clear hC5 hl5;have hst:=l2_p_cons k ps i hlt p HP2.out;generalize zq_ ps (i:Int)=p5 at *;obtain ⟨g5,hg5,hst⟩:=Option.bind_eq_some_iff.1 hst;have HG5:=a_ hg5;clear hg5;cases g5 with
  | false=>
   rw [if_neg (by simp)] at hst;have hpi:=Option.some.inj hst;have hrr:=HH.out;rw [if_neg (by omega)] at hrr;have hr2:=Option.some.inj hrr;subst hr2;have HPI:z0_ ((i:Int)+1=p):=⟨hpi⟩
   clear hst hpi hrr;go_wp2_with (go_at_call 32;refine (zo_.calls k p5.f0 p5.f1 A5 c5 p5.f2 false _ (Kd.xo_ HC5.out (by repeat (first|exact HB2.out|apply z3_))) HL5.out HG5.out).mono ?_;rintro e w3 ⟨rfl,hd⟩;have HB3:z0_ (Below w.heap.size w w3):=⟨y7_ (by repeat (first|exact HB2.out|apply z3_)) hd⟩;have BK3:=a_ (zd_ (g:=w.heap.size) (z5_ BK2.out _) hd);clear hd);go_ret;exact ⟨by rw [←HPI.out,show wrap64 ((i:Int)+1)=(i:Int)+1 by unfold wrap64;have:=C1.out;omega];rfl,HB3.out⟩
  | true=>
   rw [if_pos rfl] at hst;have HST:=a_ hst;clear hst;go_wp2_with (go_at_call 32;refine (zo_.calls k p5.f0 p5.f1 A5 c5 p5.f2 true _ (Kd.xo_ HC5.out (by repeat (first|exact HB2.out|apply z3_))) HL5.out HG5.out).mono ?_;rintro e w3 ⟨rfl,hd⟩;have HB3:z0_ (Below w.heap.size w w3):=⟨y7_ (by repeat (first|exact HB2.out|apply z3_)) hd⟩;have BK3:=a_ (zd_ (g:=w.heap.size) (z5_ BK2.out _) hd);clear hd);go_roundg (ps.length-(i+1))
   case measure=>omega
   case rel=>exact ⟨i+1,by omega,by omega,by rw [show wrap64 ((i:Int)+1)=((i+1:Nat):Int) by unfold wrap64;have:=C1.out;omega],HST,HB3,BK3⟩
 ·have hil:i=ps.length:=by omega
  subst hil;have e0:=HP2.out;rw [List.drop_length] at e0;unfold zc_.p at e0
  have e1:=Option.some.inj e0;subst e1;have h2:=HH.out;rw [if_pos rfl] at h2;obtain ⟨ee,he,h2⟩:=Option.bind_eq_some_iff.1 h2;have HE:z0_ (zc_.e k es (es.length-0) 0=some ee):=⟨he⟩
  have HH2:=a_ h2;clear he h2 e0 HP2 HH HP;have ha0:=(z1_ BK2.out 3).trans rfl;simp only [List.getElem?_toArray,List.getElem?_cons_zero,List.getElem?_cons_succ] at ha0;go_wp2;go_loopg [48] es.length (fun gg v48 wr=>∃i:Nat,i≤es.length∧es.length-i≤gg∧v48=.int .i64 (i:Int)∧z0_ (zc_.e k es (es.length-i) i=some ee)∧z0_ (Below w.heap.size w wr)∧z0_ (wr.heap[w.heap.size]?=some (.cells #[.string nm,.int .i64 sa,.slice A2 ps.length c2,.slice A3 es.length c3,.slice A4 as_.length c4] 39 (0,0))))
  case atStart=>exact ⟨0,Nat.zero_le _,Nat.le_refl _,rfl,HE,HB2,BK2⟩
  obtain ⟨i,hi,hgg,rfl,HE2,HB4,BK4⟩:=hrel;have hb0:=(z1_ BK4.out 3).trans rfl;simp only [List.getElem?_toArray,List.getElem?_cons_zero,List.getElem?_cons_succ] at hb0;by_cases hlt:i<es.length
  ·have hz:(i:Int)<(es.length:Int):=by omega
   have hst:=l2_e_cons k es es.length i hlt ee HE2.out;obtain ⟨g5,hg5,hst⟩:=Option.bind_eq_some_iff.1 hst;have HG5:=a_ hg5;clear hg5;cases g5 with
   | false=>
    rw [if_neg (by simp)] at hst;have hpi:=Option.some.inj hst;have hrr:=HH2.out;rw [if_neg (by omega)] at hrr;have hr2:=Option.some.inj hrr;subst hr2;have HPI:z0_ ((i:Int)+1=ee):=⟨hpi⟩
    clear hst hpi hrr;go_wp2_with (go_at_call 159;refine (za_.calls k A3 c3 es (i:Int) false _ (Kd.xo_ HR3.out (by repeat (first|exact HB4.out|apply z3_))) HC3.out HG5.out).mono ?_;rintro e w3 ⟨rfl,hd⟩;have HB5:z0_ (Below w.heap.size w w3):=⟨y7_ HB4.out hd⟩;have BK5:=a_ (zd_ (g:=w.heap.size) BK4.out hd);clear hd);go_ret;exact ⟨by rw [←HPI.out,show wrap64 ((i:Int)+1)=(i:Int)+1 by unfold wrap64;have:=C3.out;omega];rfl,HB5.out⟩
   | true=>
    rw [if_pos rfl] at hst;have HST:=a_ hst;clear hst;go_wp2_with (go_at_call 159;refine (za_.calls k A3 c3 es (i:Int) true _ (Kd.xo_ HR3.out (by repeat (first|exact HB4.out|apply z3_))) HC3.out HG5.out).mono ?_;rintro e w3 ⟨rfl,hd⟩;have HB5:z0_ (Below w.heap.size w w3):=⟨y7_ HB4.out hd⟩;have BK5:=a_ (zd_ (g:=w.heap.size) BK4.out hd);clear hd);go_roundg (es.length-(i+1))
    case measure=>omega
    case rel=>exact ⟨i+1,by omega,by omega,by rw [show wrap64 ((i:Int)+1)=((i+1:Nat):Int) by unfold wrap64;have:=C3.out;omega],HST,HB5,BK5⟩
  ·have hil:i=es.length:=by omega
   subst hil;have e0:=HE2.out;rw [Nat.sub_self] at e0;unfold zc_.e at e0
   have e1:=Option.some.inj e0;subst e1;have h3:=HH2.out;rw [if_pos rfl] at h3;obtain ⟨aa,haa,h3⟩:=Option.bind_eq_some_iff.1 h3;have HA:z0_ (zc_.a k es (as_.drop 0) 0 0=some aa):=⟨haa⟩
   have HH3:=a_ h3;clear haa h3 e0 HE2 HH2 HE;have hb4:=(z1_ BK4.out 4).trans rfl;simp only [List.getElem?_toArray,List.getElem?_cons_zero,List.getElem?_cons_succ] at hb4;obtain ⟨wq,hwq⟩:∃x,x=wr:=⟨_,rfl⟩;subst hwq;have hs1:w.heap.size+1≤wq.heap.size:=lt_of_block BK4.out
   have HS1:=a_ hs1;have hb5:=(z1_ (z5_ BK4.out (.cells #[.int .i64 0] 3)) 4).trans rfl;simp only [List.getElem?_toArray,List.getElem?_cons_zero,List.getElem?_cons_succ] at hb5;go_wp2;go_loopg [62] as_.length (fun gg v62 wr=>∃(i:Nat) (m:Int),i≤as_.length∧as_.length-i≤gg∧v62=.int .i64 (i:Int)∧z0_ (zc_.a k es (as_.drop i) i m=some aa)∧z0_ (Below w.heap.size w wr)∧z0_ (wr.heap[w.heap.size]?=some (.cells #[.string nm,.int .i64 sa,.slice A2 ps.length c2,.slice A3 es.length c3,.slice A4 as_.length c4] 39 (0,0)))∧z0_ (wr.heap[wq.heap.size]?=some (.cells #[.int .i64 m] 3 (0,0))))
   case atStart=>exact ⟨0,0,Nat.zero_le _,Nat.le_refl _,rfl,HA,⟨z3_ HB4.out _⟩,⟨z5_ BK4.out _⟩,⟨wh_ wq _⟩⟩
   obtain ⟨i,m,hi,hgg,rfl,HA2,HB6,BK6,BN6⟩:=hrel;have hd0:=(z1_ BK6.out 0).trans rfl;have hd1:=(z1_ BK6.out 1).trans rfl;have hd2:=(z1_ BK6.out 2).trans rfl;have hd3:=(z1_ BK6.out 3).trans rfl;have hd4:=(z1_ BK6.out 4).trans rfl;simp only [List.getElem?_toArray,List.getElem?_cons_zero,List.getElem?_cons_succ] at hd0 hd1 hd2 hd3 hd4;have hn6:=cell_of_one BN6.out;have hs6:w.heap.size+1≤wr.heap.size:=lt_of_block BK6.out
   have hs7:wq.heap.size+1≤wr.heap.size:=lt_of_block BN6.out
   by_cases hlt:i<as_.length
   ·have hz:(i:Int)<(as_.length:Int):=by omega
    have hz0:(0:Int)≤(i:Int):=by omega
    obtain ⟨ad,A7,c7,e0,hx0,hx1,hx2,hx3,hl7,hC7⟩:=at_T98 HR4.out (i:Int) hz0 hz;cases e0;replace hx0:=(HB6.out.cell (World.block_lt_of_cell? w _ hx0)).trans hx0;replace hx1:=(HB6.out.cell (World.block_lt_of_cell? w _ hx1)).trans hx1;replace hx2:=(HB6.out.cell (World.block_lt_of_cell? w _ hx2)).trans hx2;replace hx3:=(HB6.out.cell (World.block_lt_of_cell? w _ hx3)).trans hx3;simp only [Int.toNat_natCast] at hx0 hx1 hx2 hx3;have HC7:=a_ hC7;have hst:=l2_a_cons k es as_ i m hlt aa HA2.out;clear hC7 hl7;generalize y3_ as_ (i:Int)=a7 at *;have BKA:=z5_ BK6.out (.cells #[.int .i64 a7.f0,.int .i64 a7.f1,.string a7.f2,.slice A7 a7.f3.length c7] 98);have he0:=(z1_ BKA 0).trans rfl;have he1:=(z1_ BKA 1).trans rfl;have he2:=(z1_ BKA 2).trans rfl;have he3:=(z1_ BKA 3).trans rfl;have he4:=(z1_ BKA 4).trans rfl;simp only [List.getElem?_toArray,List.getElem?_cons_zero,List.getElem?_cons_succ] at he0 he1 he2 he3 he4;clear BKA;obtain ⟨⟨g7,m7⟩,hg7,hst⟩:=Option.bind_eq_some_iff.1 hst;have HG7:=a_ hg7;clear hg7;cases g7 with
    | false=>
     rw [if_neg (by simp)] at hst;have hpi:=Option.some.inj hst;have hrr:=HH3.out;rw [←hpi,if_neg (by show ¬((i:Int)+1=-1);omega)] at hrr;have hr2:=Option.some.inj hrr;have HPI:z0_ ((i:Int)+1=r):=⟨hr2⟩
     clear hst hpi hrr hr2;go_wp2_with (go_at_call 160;refine (zn_.calls k nm sa A2 ps.length c2 A3 c3 es (some ad) as_.length c4 a7.f0 a7.f1 a7.f2 A7 c7 a7.f3 wq.heap.size m m7 false w _ (z3_ HB6.out _) HR3.out HC3.out HC7.out (z5_ BN6.out _) (Nat.le_of_succ_le HS1.out) HG7.out).mono ?_;rintro e w7 ⟨rfl,hbn,hgr,hsz⟩;have HB8:z0_ (Below w.heap.size w w7):=⟨(z3_ HB6.out _).grown hgr (z3_ HB6.out _).size (by intro q e;injection e with e;have:=HS1.out;omega)⟩;have BK8:=a_ ((hgr.block w.heap.size (lt_of_block (z5_ BK6.out _)) (by intro e;injection e with e;have:=HS1.out;omega)).trans (z5_ BK6.out _));have BN8:=a_ hbn;clear hbn hgr hsz);go_ret;exact ⟨by rw [←HPI.out,show wrap64 ((i:Int)+1)=(i:Int)+1 by unfold wrap64;have:=C2.out;omega];rfl,HB8.out⟩
    | true=>
     rw [if_pos rfl] at hst;have HST:=a_ hst;clear hst;go_wp2_with (go_at_call 160;refine (zn_.calls k nm sa A2 ps.length c2 A3 c3 es (some ad) as_.length c4 a7.f0 a7.f1 a7.f2 A7 c7 a7.f3 wq.heap.size m m7 true w _ (z3_ HB6.out _) HR3.out HC3.out HC7.out (z5_ BN6.out _) (Nat.le_of_succ_le HS1.out) HG7.out).mono ?_;rintro e w7 ⟨rfl,hbn,hgr,hsz⟩;have HB8:z0_ (Below w.heap.size w w7):=⟨(z3_ HB6.out _).grown hgr (z3_ HB6.out _).size (by intro q e;injection e with e;have:=HS1.out;omega)⟩;have BK8:=a_ ((hgr.block w.heap.size (lt_of_block (z5_ BK6.out _)) (by intro e;injection e with e;have:=HS1.out;omega)).trans (z5_ BK6.out _));have BN8:=a_ hbn;clear hbn hgr hsz);go_roundg (as_.length-(i+1))
     case measure=>omega
     case rel=>exact ⟨i+1,m7,by omega,by omega,by rw [show wrap64 ((i:Int)+1)=((i+1:Nat):Int) by unfold wrap64;have:=C2.out;omega],HST,HB8,BK8,BN8⟩
   ·have hil:i=as_.length:=by omega
    subst hil;have e0:=HA2.out;rw [List.drop_length] at e0;unfold zc_.a at e0
    have e1:=Option.some.inj e0;subst e1;have h4:=HH3.out;rw [if_pos rfl] at h4;clear e0 HA2 HH3 HA;by_cases d1:m=(es.length:Int)
    ·subst d1;rw [if_pos rfl] at h4;cases h4;go_wp2;go_ret;exact ⟨rfl,HB6.out⟩
    ·rw [if_neg d1] at h4;have h5:=Option.some.inj h4;subst h5;have q7:(m==(es.length:Int))=false:=by simpa using d1
     have q8:(m != (es.length:Int))=true:=by simpa using d1
     clear d1 h4;go_wp2;go_ret;exact ⟨by rw [show wrap64 ((as_.length:Int)+1)=(as_.length:Int)+1 by unfold wrap64;have:=C2.out;omega];rfl,HB6.out⟩
theorem zc_.calls (k:Nat) (a0_0:ByteArray) (a0_1:Int) (A0_2:Option Addr) (c0_2:Nat) (l0_2:List S42) (A0_3:Option Addr) (c0_3:Nat) (l0_3:List S161) (A0_4:Option Addr) (c0_4:Nat) (l0_4:List S98) (r:Int) (w:World) (hr0_2:Kd.C k42 w A0_2 l0_2.length l0_2) (hc0_2:l0_2.length≤c0_2) (hr0_3:Kd.C k161 w A0_3 l0_3.length l0_3) (hc0_3:l0_3.length≤c0_3) (hr0_4:Kd.C k98 w A0_4 l0_4.length l0_4) (hc0_4:l0_4.length≤c0_4) (h:zc_.f k a0_0 a0_1 l0_2 l0_3 l0_4=some r):
  Calls Tryz.prog 128 #[.agg #[.string a0_0,.int .i64 a0_1,.slice A0_2 l0_2.length c0_2,.slice A0_3 l0_3.length c0_3,.slice A0_4 l0_4.length c0_4]] w fun e w'=>e=.returned (.int .i64 r)∧Below w.heap.size w w':=
 zc_.walk k a0_0 a0_1 A0_2 c0_2 l0_2 A0_3 c0_3 l0_3 A0_4 c0_4 l0_4 r w hr0_2 hr0_3 hc0_3 hr0_4 h
def zt_.l0:Nat→Int→List (S42)→Int→Int→Option (Int)
 | 0,_,_,_,_=>none
 | k+1,x3,x7,x8,x9=>if x9<x8 then (if 0≤x9 then (if x9<(x7.length:Int) then (if ((zq_ x7 x9).f0=true) then (zt_.l0 k x3 x7 x8 (wrap64 (x9+1))) else (zt_.l0 k (wrap64 (x3+1)) x7 x8 (wrap64 (x9+1)))) else (none)) else (none)) else (some x3)
def zt_.f (k:Nat) (a0_0:ByteArray) (a0_1:Int) (l0_2:List (S42)) (l0_3:List (S161)) (l0_4:List (S98)):Option (Int):=zt_.l0 k 0 l0_2 (l0_2.length:Int) 0
theorem zt_.y6_:∀k,(∀y0 y1 y2 y3,LeO (zt_.l0 k y0 y1 y2 y3) (zt_.l0 (k+1) y0 y1 y2 y3))
 | 0=>fun _ _ _ _ r h=>by simp [zt_.l0] at h
 | k+1=>by
  have ih0:=zt_.y6_ k
  ·intro y0 y1 y2 y3;unfold zt_.l0
   repeat' with_reducible first|apply ih0|apply LeO.refl|apply LeO.none|refine LeO.ite ?_ ?_|refine LeO.bind ?_ (fun _=>?_)
theorem zt_.mono:∀a0 a1 a2 a3 a4 k,LeO (zt_.f k a0 a1 a2 a3 a4) (zt_.f (k+1) a0 a1 a2 a3 a4):=by
 intro a0 a1 a2 a3 a4 k;have ih0:=zt_.y6_ k;unfold zt_.f
 repeat' with_reducible first|apply ih0|apply LeO.refl|apply LeO.none|refine LeO.ite ?_ ?_|refine LeO.bind ?_ (fun _=>?_)
set_option maxHeartbeats 8000000 in
set_option maxRecDepth 100000 in
theorem zt_.calls (k:Nat) (a0_0:ByteArray) (a0_1:Int) (A0_2:Option Addr) (c0_2:Nat) (l0_2:List (S42)) (A0_3:Option Addr) (c0_3:Nat) (l0_3:List (S161)) (A0_4:Option Addr) (c0_4:Nat) (l0_4:List (S98)) (r:Int) (w:World) (hr0_2:Kd.C k42 w A0_2 l0_2.length l0_2) (hc0_2:l0_2.length≤c0_2) (hr0_3:Kd.C k161 w A0_3 l0_3.length l0_3) (hc0_3:l0_3.length≤c0_3) (hr0_4:Kd.C k98 w A0_4 l0_4.length l0_4) (hc0_4:l0_4.length≤c0_4) (h:zt_.f k a0_0 a0_1 l0_2 l0_3 l0_4=some r):
  Calls Tryz.prog 129 #[.agg #[.string a0_0,.int .i64 a0_1,.slice A0_2 l0_2.length c0_2,.slice A0_3 l0_3.length c0_3,.slice A0_4 l0_4.length c0_4]] w fun e w'=>e=.returned (.int .i64 r)∧Below w.heap.size w w':=by
 have hu39:=Tryz.underlying39;have hu42:=Tryz.underlying42;have HR0_2:=a_ hr0_2;have HC0_2:=a_ hc0_2;clear hr0_2 hc0_2;have HR0_3:=a_ hr0_3;have HC0_3:=a_ hc0_3;clear hr0_3 hc0_3;have HR0_4:=a_ hr0_4;have HC0_4:=a_ hc0_4;clear hr0_4 hc0_4;have HB:=a_ (Below.refl w.heap.size w);have H:(zt_.l0 k 0 l0_2 (l0_2.length:Int) 0)=some r:=h
 clear h;have H':=a_ H;clear H;go_enter Tryz.func129,Tryz.ntmps129;go_wp2_with (first|((with_reducible refine zl_ (N:=1) rfl ?_);refine bh_ 1 #[.string a0_0,.int .i64 a0_1,.slice A0_2 l0_2.length c0_2,.slice A0_3 l0_3.length c0_3,.slice A0_4 l0_4.length c0_4] 39 HB ?_;intro gb385 hg wx BK385 GE385 hb;replace HB:=ms_ HB hb;clear hb hg;replace hz385:=cz5 BK385));go_loopg [3,9] k (fun kq v3 v9 w'=>∃(x3_1:Int) (x9_1:Int),v3=.int .i64 x3_1∧v9=.int .i64 x9_1∧z0_ (zt_.l0 kq x3_1 l0_2 (l0_2.length:Int) x9_1=some r)∧z0_ (kq≤k)∧z0_ (w'.heap[gb385]?=some (.cells #[.string a0_0,.int .i64 a0_1,(.slice A0_2 l0_2.length c0_2),(.slice A0_3 l0_3.length c0_3),(.slice A0_4 l0_4.length c0_4)] 39 (0,0)))∧z0_ (Below w.heap.size w w'))
 case atStart=>exact ⟨(0),(0),mq_,mq_,H',⟨Nat.le_refl _⟩,⟨mc_ BK385⟩,⟨mb_ HB⟩⟩
 clear H';(try clear hz385);obtain ⟨x3_1,x9_1,rfl,rfl,HA,HK1,BK385,HB⟩:=hrel;obtain _|k1:=gk
 ·exact absurd HA.out (by simp [zt_.l0])
 have H:=HA.out;clear HA;simp only [zt_.l0] at H;by_cases c4:x9_1<(l0_2.length:Int)
 ·rw [if_pos c4] at H;have c4b0:=ct_ c4;clear c4;by_cases c5:0≤x9_1
  case neg=>
   rw [if_neg c5] at H;cases H
  rw [if_pos c5] at H;have c5b0:=ct_ c5;clear c5;by_cases c6:x9_1<(l0_2.length:Int)
  case neg=>
   rw [if_neg c6] at H;cases H
  rw [if_pos c6] at H;have c6b0:=ct_ c6;clear c6;obtain ⟨bq7,hbq7⟩:∃b_:Bool,b_=((zq_ l0_2 x9_1).f0):=⟨_,rfl⟩;replace H:(if (bq7=true) then (zt_.l0 k1 x3_1 l0_2 (l0_2.length:Int) (wrap64 (x9_1+1))) else (zt_.l0 k1 (wrap64 (x3_1+1)) l0_2 (l0_2.length:Int) (wrap64 (x9_1+1))))=some r:=by rw [←hbq7] at H;exact H
  have Nbq7:=a_ hbq7;clear hbq7;by_cases c8:(bq7=true)
  ·subst c8;rw [if_pos rfl] at H;have H':=a_ H;clear H;have p386:0≤(x9_1:Int):=md_
   have q386:x9_1<(l0_2.length:Int):=md_
   obtain ⟨ad386,A386_2,c386_2,e386,hx386_0,hx386_1,hx386_2,hl386_2,hi386_2⟩:=at_T42 HR0_2.out x9_1 p386 q386;(try rw [←Nbq7.out] at hx386_0);cases e386;replace hx386_0:=mx_ HB hx386_0;replace hx386_1:=mx_ HB hx386_1;replace hx386_2:=mx_ HB hx386_2;have HR386_2:=a_ hi386_2;have HC386_2:=a_ hl386_2;clear hi386_2 hl386_2;replace p386:=eq_true p386;replace q386:=eq_true q386;go_wp2_with (first|((with_reducible refine zl_ (N:=5) rfl ?_);refine bh_ 5 #[.bool false,.string (⟨#[]⟩:ByteArray),.slice none 0 0] 42 HB ?_;intro gb387 hg wx BK387 GE387 hb;obtain ⟨NB385_387,NB387_385⟩:=mn_ BK385 hg;replace BK385:=mk_ BK385 hb;replace HB:=ms_ HB hb;clear hb hg;have nNB387_385:=NB387_385.out;have nNB385_387:=NB385_387.out;replace hz387:=cz3 BK387));go_roundg k1
   case measure=>
    have:=HK1.out
    omega
   case rel=>exact ⟨(x3_1),(wrap64 (x9_1+1)),mq_,mq_,H',⟨by have:=HK1.out;omega⟩,⟨mc_ BK385⟩,⟨mb_ HB⟩⟩
  ·replace c8:=Bool.eq_false_iff.mpr c8;subst c8;rw [if_neg (show ¬(false=true) by decide)] at H;have H':=a_ H;clear H;have p386:0≤(x9_1:Int):=md_
   have q386:x9_1<(l0_2.length:Int):=md_
   obtain ⟨ad386,A386_2,c386_2,e386,hx386_0,hx386_1,hx386_2,hl386_2,hi386_2⟩:=at_T42 HR0_2.out x9_1 p386 q386;(try rw [←Nbq7.out] at hx386_0);cases e386;replace hx386_0:=mx_ HB hx386_0;replace hx386_1:=mx_ HB hx386_1;replace hx386_2:=mx_ HB hx386_2;have HR386_2:=a_ hi386_2;have HC386_2:=a_ hl386_2;clear hi386_2 hl386_2;replace p386:=eq_true p386;replace q386:=eq_true q386;go_wp2_with (first|((with_reducible refine zl_ (N:=5) rfl ?_);refine bh_ 5 #[.bool false,.string (⟨#[]⟩:ByteArray),.slice none 0 0] 42 HB ?_;intro gb387 hg wx BK387 GE387 hb;obtain ⟨NB385_387,NB387_385⟩:=mn_ BK385 hg;replace BK385:=mk_ BK385 hb;replace HB:=ms_ HB hb;clear hb hg;have nNB387_385:=NB387_385.out;have nNB385_387:=NB385_387.out;replace hz387:=cz3 BK387));go_roundg k1
   case measure=>
    have:=HK1.out
    omega
   case rel=>exact ⟨(wrap64 (x3_1+1)),(wrap64 (x9_1+1)),mq_,mq_,H',⟨by have:=HK1.out;omega⟩,⟨mc_ BK385⟩,⟨mb_ HB⟩⟩
 ·rw [if_neg c4] at H;have c4b0:=cf_ c4;clear c4;obtain rfl:=oi_ H;go_wp2;go_ret;exact ⟨me_,mb_ HB⟩
end Go.Proofs.YtahambloheoebaaGreatDoor.P
