/- The row of the law FnExactAgenda: for every input the call returns true, and each argument reads behind it as it read before; no condition of ours. -/
import Derived.BigRegion
import Derived.Deep.RegionHeld3
import Derived.OneCell
import Derived.Deep.DrawnRows
import Derived.IntWalk
import Derived.Shelf.Abstract
import Derived.Deep.LoopGhost
import Derived.Deep.RegionLaw
import Derived.Test.YtejjlkbbnhpbdaaGreatQAg6
namespace Go.Proofs.YtejjlkbbnhpbdaaGreat.P
open Go.Proofs.YtejjlkbbnhpbdaaGreatX
open Go.RowKit Go.Proofs.YtejjlkbbnhpbdaaGreatW.PrintWords Go.Proofs.YtejjlkbbnhpbdaaGreatW.PrintLast Go.Proofs.YtejjlkbbnhpbdaaGreatW.PrintMore
attribute [local go_sem] max2_int min2_int max_two min_two max_three min_three max_four min_four
set_option linter.unusedVariables false
set_option linter.unusedSimpArgs false
def laws_eqIntS.l0:Nat→List Int→List Int→Int→Option (Bool)
 | 0,_,_,_=>none
 | k+1,x0,x1,x5=>if x5<(x0.length:Int) then (if 0≤x5 then (if x5<(x1.length:Int) then (if (rd x0 x5)=(rd x1 x5) then (laws_eqIntS.l0 k x0 x1 (wrap64 (x5+1))) else (some false)) else (none)) else (none)) else (some true)
def laws_eqIntS.f (k:Nat) (l0:List Int) (l1:List Int):Option (Bool):=if (l0.length:Int)=(l1.length:Int) then (laws_eqIntS.l0 k l0 l1 0) else (some false)
theorem laws_eqIntS.mono_l:∀k,(∀y0 y1 y2,LeO (laws_eqIntS.l0 k y0 y1 y2) (laws_eqIntS.l0 (k+1) y0 y1 y2))
 | 0=>fun _ _ _ r h=>by simp [laws_eqIntS.l0] at h
 | k+1=>by
  have ih0:=laws_eqIntS.mono_l k
  ·intro y0 y1 y2;unfold laws_eqIntS.l0
   repeat' with_reducible first|apply ih0|apply LeO.refl|apply LeO.none|refine LeO.ite ?_ ?_|refine LeO.bind ?_ (fun _=>?_)
theorem laws_eqIntS.mono:∀a0 a1 k,LeO (laws_eqIntS.f k a0 a1) (laws_eqIntS.f (k+1) a0 a1):=by
 intro a0 a1 k;have ih0:=laws_eqIntS.mono_l k;unfold laws_eqIntS.f
 repeat' with_reducible first|apply ih0|apply LeO.refl|apply LeO.none|refine LeO.ite ?_ ?_|refine LeO.bind ?_ (fun _=>?_)
set_option maxHeartbeats 8000000 in
set_option maxRecDepth 100000 in
theorem laws_eqIntS.calls (k:Nat) (A0:Option Addr) (c0:Nat) (l0:List Int) (A1:Option Addr) (c1:Nat) (l1:List Int) (r:Bool) (w:World) (hr0:Kd.C (Kd.int .i64) w A0 l0.length l0) (hc0:l0.length≤c0) (hr1:Kd.C (Kd.int .i64) w A1 l1.length l1) (hc1:l1.length≤c1) (h:laws_eqIntS.f k l0 l1=some r) (hT_:r=true:=by first|rfl|assumption):
  Calls Tryz.prog 32 #[.slice A0 l0.length c0,.slice A1 l1.length c1] w fun e w'=>e=.returned (.bool r)∧Drawn0 w w':=by
 subst hT_;have HR0:=a_ hr0;have HC0:=a_ hc0;clear hr0 hc0;have HR1:=a_ hr1;have HC1:=a_ hc1;clear hr1 hc1;have H:(if (l0.length:Int)=(l1.length:Int) then (laws_eqIntS.l0 k l0 l1 0) else (some false))=some true:=h
 clear h;by_cases c3:(l0.length:Int)=(l1.length:Int)
 ·rw [if_pos c3] at H;obtain ⟨c3b0,c3b1⟩:=bq_ c3;have c3b2:(l0.length==l1.length)=true:=by first|simpa using c3|(simp at c3 ⊢;omega)
  clear c3;have H':=a_ H;clear H;go_enter Tryz.func32,Tryz.ntmps32;go_wp2;repeat (go_quiet (fail);try go_wp2)
  go_loopg [5] k (fun kq v5 w'=>∃(x5_1:Int),v5=.int .i64 x5_1∧Aside0 (laws_eqIntS.l0 kq l0 l1 x5_1=some true)∧Aside0 (kq≤k)∧Drawn0 w w')
  case atStart=>exact ⟨(0),mq_,H',⟨Nat.le_refl _⟩,by repeat (first|exact Drawn0.refl _|apply Drawn0.step)⟩
  clear H';(try clear c3b0);(try clear c3b1);(try clear c3b2);obtain ⟨x5_1,rfl,HA,HK1,⟨m1,rfl⟩⟩:=hrel;obtain _|k1:=gk
  ·exact absurd HA.out (by simp [laws_eqIntS.l0])
  have H:=HA.out;clear HA;simp only [laws_eqIntS.l0] at H;by_cases c4:x5_1<(l0.length:Int)
  ·rw [if_pos c4] at H;have c4b0:=ct_ c4;clear c4;by_cases c5:0≤x5_1
   case neg=>
    rw [if_neg c5] at H;cases H
   rw [if_pos c5] at H;have c5b0:=ct_ c5;clear c5;by_cases c6:x5_1<(l1.length:Int)
   case neg=>
    rw [if_neg c6] at H;cases H
   rw [if_pos c6] at H;have c6b0:=ct_ c6;clear c6;by_cases c7:(rd l0 x5_1)=(rd l1 x5_1)
   case neg=>
    rw [if_neg c7] at H;obtain ⟨c7b0,c7b1⟩:=bn_ c7;exact absurd (Option.some.inj H) (by decide)
   rw [if_pos c7] at H;obtain ⟨c7b0,c7b1⟩:=bq_ c7;clear c7;have H':=a_ H;clear H;have p559:0≤(x5_1:Int):=md_
   have q559:x5_1<(l0.length:Int):=md_
   obtain ⟨ad559,e559,hx559_0⟩:=Kd.at_int HR0.out x5_1 p559 q559;cases e559;replace p559:=eq_true p559;replace q559:=eq_true q559;have p560:0≤(x5_1:Int):=md_
   have q560:x5_1<(l1.length:Int):=md_
   obtain ⟨ad560,e560,hx560_0⟩:=Kd.at_int HR1.out x5_1 p560 q560;cases e560;replace p560:=eq_true p560;replace q560:=eq_true q560;go_wp2;repeat (go_quiet (fail);try go_wp2)
   go_roundg k1
   case measure=>
    have:=HK1.out
    omega
   case rel=>exact ⟨(wrap64 (x5_1+1)),mq_,H',⟨by have:=HK1.out;omega⟩,by repeat (first|exact Drawn0.refl _|apply Drawn0.step)⟩
  ·rw [if_neg c4] at H;have c4b0:=cf_ c4;clear c4;clear H;go_wp2;repeat (go_quiet (fail);try go_wp2)
   go_ret;exact ⟨by first|rfl|(simp;done)|(simp [*];done),by repeat (first|exact Drawn0.refl _|apply Drawn0.step)⟩
 ·rw [if_neg c3] at H;obtain ⟨c3b0,c3b1⟩:=bn_ c3;have c3b2:(l0.length==l1.length)=false:=by first|simpa using c3|(simp at c3 ⊢;omega)
  exact absurd (Option.some.inj H) (by decide)
def laws_eqAction.f (k:Nat) (a0_0:Int) (a0_1:Int) (a0_2:ByteArray) (l0_3:List Int) (a1_0:Int) (a1_1:Int) (a1_2:ByteArray) (l1_3:List Int):Option (Bool):=if a0_0=a1_0 then (if a0_1=a1_1 then (if a0_2.toList=a1_2.toList then ((laws_eqIntS.f k l0_3 l1_3).bind fun t563=>(if t563=true then (some true) else (some false))) else (some false)) else (some false)) else (some false)
theorem laws_eqAction.mono:∀a0 a1 a2 a3 a4 a5 a6 a7 k,LeO (laws_eqAction.f k a0 a1 a2 a3 a4 a5 a6 a7) (laws_eqAction.f (k+1) a0 a1 a2 a3 a4 a5 a6 a7):=by
 intro a0 a1 a2 a3 a4 a5 a6 a7 k;unfold laws_eqAction.f
 repeat' with_reducible first|apply laws_eqIntS.mono|apply LeO.refl|apply LeO.none|refine LeO.ite ?_ ?_|refine LeO.bind ?_ (fun _=>?_)
set_option maxHeartbeats 8000000 in
set_option maxRecDepth 100000 in
theorem laws_eqAction.calls (k:Nat) (a0_0:Int) (a0_1:Int) (a0_2:ByteArray) (A0_3:Option Addr) (c0_3:Nat) (l0_3:List Int) (a1_0:Int) (a1_1:Int) (a1_2:ByteArray) (A1_3:Option Addr) (c1_3:Nat) (l1_3:List Int) (r:Bool) (w:World) (hr0_3:Kd.C (Kd.int .i64) w A0_3 l0_3.length l0_3) (hc0_3:l0_3.length≤c0_3) (hr1_3:Kd.C (Kd.int .i64) w A1_3 l1_3.length l1_3) (hc1_3:l1_3.length≤c1_3) (h:laws_eqAction.f k a0_0 a0_1 a0_2 l0_3 a1_0 a1_1 a1_2 l1_3=some r) (hT_:r=true:=by first|rfl|assumption):
  Calls Tryz.prog 84 #[.agg #[.int .i64 a0_0,.int .i64 a0_1,.string a0_2,.slice A0_3 l0_3.length c0_3],.agg #[.int .i64 a1_0,.int .i64 a1_1,.string a1_2,.slice A1_3 l1_3.length c1_3]] w fun e w'=>e=.returned (.bool r)∧Below w.heap.size w w':=by
 subst hT_;have hu108:=Tryz.underlying108;have HR0_3:=a_ hr0_3;have HC0_3:=a_ hc0_3;clear hr0_3 hc0_3;have HR1_3:=a_ hr1_3;have HC1_3:=a_ hc1_3;clear hr1_3 hc1_3;have HB:=a_ (Below.refl w.heap.size w);have H:=h;unfold laws_eqAction.f at H
 clear h;by_cases c3:a0_0=a1_0
 case neg=>
  rw [if_neg c3] at H;obtain ⟨c3b0,c3b1⟩:=bn_ c3;exact absurd (Option.some.inj H) (by decide)
 rw [if_pos c3] at H;obtain ⟨c3b0,c3b1⟩:=bq_ c3;clear c3;by_cases c4:a0_1=a1_1
 case neg=>
  rw [if_neg c4] at H;obtain ⟨c4b0,c4b1⟩:=bn_ c4;exact absurd (Option.some.inj H) (by decide)
 rw [if_pos c4] at H;obtain ⟨c4b0,c4b1⟩:=bq_ c4;clear c4;by_cases c5:a0_2.toList=a1_2.toList
 case neg=>
  rw [if_neg c5] at H;obtain ⟨c5b0,c5b1⟩:=bn_ c5;exact absurd (Option.some.inj H) (by decide)
 rw [if_pos c5] at H;obtain ⟨c5b0,c5b1⟩:=bq_ c5;clear c5;obtain ⟨t563,A6,H⟩:=ob_ H;by_cases c7:t563=true
 ·subst c7;rw [if_pos rfl] at H;clear H;go_enter Tryz.func84,Tryz.ntmps84;go_wp2_with (first|((with_reducible refine gate_dst (N:=2) rfl ?_);refine bh_ 2 #[.int .i64 a0_0,.int .i64 a0_1,.string a0_2,.slice A0_3 l0_3.length c0_3] 108 HB ?_;intro gb561 hg wx BK561 GE561 hb;replace HB:=ms_ HB hb;clear hb hg)|((with_reducible refine gate_dst (N:=3) rfl ?_);refine bh_ 3 #[.int .i64 a1_0,.int .i64 a1_1,.string a1_2,.slice A1_3 l1_3.length c1_3] 108 HB ?_;intro gb562 hg wx BK562 GE562 hb;obtain ⟨NB561_562,NB562_561⟩:=mn_ BK561 hg;replace BK561:=mk_ BK561 hb;replace HB:=ms_ HB hb;clear hb hg;have nNB561_562:=NB561_562.out;have nNB562_561:=NB562_561.out;replace hz561:=cz4 BK561;replace hz562:=cz4 BK562)|((with_reducible refine gate_callee (f:=32) rfl ?_);refine goesL_ (some 24) rfl rfl Tryz.func32 (by kernel_rfl) rfl #[.slice A0_3 l0_3.length c0_3,.slice A1_3 l1_3.length c1_3] rfl mw_ ?_;(with_reducible refine (laws_eqIntS.calls k _ _ l0_3 _ _ l1_3 true _ ?side1 HC0_3.out ?side3 HC1_3.out A6.out).mono ?_);(case side1=>exact mt_ HR0_3 HB);(case side3=>exact mt_ HR1_3 HB);rintro e w' ⟨rfl,⟨nd,rfl⟩⟩;refine ⟨_,rfl,?_⟩));go_ret;exact ⟨me_,mb_ HB⟩
 ·replace c7:=Bool.eq_false_iff.mpr c7;subst c7;rw [if_neg (show ¬(false=true) by decide)] at H;exact absurd (Option.some.inj H) (by decide)
def laws_eqActionS.l0:Nat→List (S108)→List (S108)→Int→Option (Bool)
 | 0,_,_,_=>none
 | k+1,x0,x1,x5=>if x5<(x0.length:Int) then (if 0≤x5 then (if x5<(x1.length:Int) then ((laws_eqAction.f k ((rd_T108 x0 x5).f0) ((rd_T108 x0 x5).f1) ((rd_T108 x0 x5).f2) ((rd_T108 x0 x5).f3) ((rd_T108 x1 x5).f0) ((rd_T108 x1 x5).f1) ((rd_T108 x1 x5).f2) ((rd_T108 x1 x5).f3)).bind fun t566=>(if t566=true then (laws_eqActionS.l0 k x0 x1 (wrap64 (x5+1))) else (some false))) else (none)) else (none)) else (some true)
def laws_eqActionS.f (k:Nat) (l0:List (S108)) (l1:List (S108)):Option (Bool):=if (l0.length:Int)=(l1.length:Int) then (laws_eqActionS.l0 k l0 l1 0) else (some false)
theorem laws_eqActionS.mono_l:∀k,(∀y0 y1 y2,LeO (laws_eqActionS.l0 k y0 y1 y2) (laws_eqActionS.l0 (k+1) y0 y1 y2))
 | 0=>fun _ _ _ r h=>by simp [laws_eqActionS.l0] at h
 | k+1=>by
  have ih0:=laws_eqActionS.mono_l k
  ·intro y0 y1 y2;unfold laws_eqActionS.l0
   repeat' with_reducible first|apply ih0|apply laws_eqAction.mono|apply LeO.refl|apply LeO.none|refine LeO.ite ?_ ?_|refine LeO.bind ?_ (fun _=>?_)
theorem laws_eqActionS.mono:∀a0 a1 k,LeO (laws_eqActionS.f k a0 a1) (laws_eqActionS.f (k+1) a0 a1):=by
 intro a0 a1 k;have ih0:=laws_eqActionS.mono_l k;unfold laws_eqActionS.f
 repeat' with_reducible first|apply ih0|apply laws_eqAction.mono|apply LeO.refl|apply LeO.none|refine LeO.ite ?_ ?_|refine LeO.bind ?_ (fun _=>?_)
def laws_eqActionS.T6:Bool×List (List Nat×List Nat):=(true,[([],[]),([],[]),([0,1],[0,1]),([2],[2]),([],[]),([],[]),([4,5],[4,5]),([6],[6]),([3,7],[3,7]),([8],[8])])
def laws_eqActionS.B6:List Nat:=[0,0,3,7,0,0,48,112,255,511]
theorem laws_eqActionS.tab6:rtab .any (opsOf Tryz.f61 6)=laws_eqActionS.T6:=by kernel_rfl
theorem laws_eqActionS.bits6:waitsOk laws_eqActionS.T6.2 laws_eqActionS.B6=true:=by kernel_rfl
abbrev b2d9_0:Array Bool:=#[f_,f_,f_,f_,f_,f_,f_,f_,f_,f_]
abbrev b2d9_1:Array Bool:=#[t_,f_,f_,f_,f_,f_,f_,f_,f_,f_]
abbrev b2d9_2:Array Bool:=#[t_,t_,f_,f_,f_,f_,f_,f_,f_,f_]
abbrev b2d9_3:Array Bool:=#[t_,t_,t_,f_,f_,f_,f_,f_,f_,f_]
abbrev b2d9_4:Array Bool:=#[t_,t_,t_,f_,t_,f_,f_,f_,f_,f_]
abbrev b2d9_5:Array Bool:=#[t_,t_,t_,f_,t_,t_,f_,f_,f_,f_]
abbrev b2d9_6:Array Bool:=#[t_,t_,t_,f_,t_,t_,t_,f_,f_,f_]
abbrev b2d9_7:Array Bool:=#[t_,t_,t_,t_,t_,t_,t_,f_,f_,f_]
abbrev b2d9_8:Array Bool:=#[t_,t_,t_,t_,t_,t_,t_,t_,f_,f_]
abbrev b2d9_9:Array Bool:=#[t_,t_,t_,t_,t_,t_,t_,t_,t_,f_]
abbrev b2d9_10:Array Bool:=#[t_,t_,t_,t_,t_,t_,t_,t_,t_,t_]
set_option maxHeartbeats 8000000 in
set_option maxRecDepth 100000 in
theorem laws_eqActionS.calls (k:Nat) (A0:Option Addr) (c0:Nat) (l0:List (S108)) (A1:Option Addr) (c1:Nat) (l1:List (S108)) (r:Bool) (w:World) (hr0:Kd.C k108 w A0 l0.length l0) (hc0:l0.length≤c0) (hr1:Kd.C k108 w A1 l1.length l1) (hc1:l1.length≤c1) (h:laws_eqActionS.f k l0 l1=some r) (hT_:r=true:=by first|rfl|assumption):
  Calls Tryz.prog 61 #[.slice A0 l0.length c0,.slice A1 l1.length c1] w fun e w'=>e=.returned (.bool r)∧Below w.heap.size w w':=by
 subst hT_;have hu108:=Tryz.underlying108;have HR0:=a_ hr0;have HC0:=a_ hc0;clear hr0 hc0;have HR1:=a_ hr1;have HC1:=a_ hc1;clear hr1 hc1;have HB:=a_ (Below.refl w.heap.size w);have H:=h;unfold laws_eqActionS.f at H
 clear h;by_cases c3:(l0.length:Int)=(l1.length:Int)
 ·rw [if_pos c3] at H;obtain ⟨c3b0,c3b1⟩:=bq_ c3;have c3b2:(l0.length==l1.length)=true:=by first|simpa using c3|(simp at c3 ⊢;omega)
  clear c3;have H':=a_ H;clear H;go_enter Tryz.func61,Tryz.ntmps61;go_wp2;go_loopg [5] k (fun kq v5 w'=>∃(x5_1:Int),v5=.int .i64 x5_1∧Aside0 (laws_eqActionS.l0 kq l0 l1 x5_1=some true)∧Aside0 (kq≤k)∧Aside0 (Below w.heap.size w w'))
  case atStart=>exact ⟨(0),mq_,H',⟨Nat.le_refl _⟩,⟨mb_ HB⟩⟩
  clear H';(try clear c3b0);(try clear c3b1);(try clear c3b2);obtain ⟨x5_1,rfl,HA,HK1,HB⟩:=hrel;obtain _|k1:=gk
  ·exact absurd HA.out (by simp [laws_eqActionS.l0])
  have H:=HA.out;clear HA;simp only [laws_eqActionS.l0] at H;by_cases c4:x5_1<(l0.length:Int)
  ·rw [if_pos c4] at H;have c4b0:=ct_ c4;clear c4;by_cases c5:0≤x5_1
   case neg=>
    rw [if_neg c5] at H;cases H
   rw [if_pos c5] at H;have c5b0:=ct_ c5;clear c5;by_cases c6:x5_1<(l1.length:Int)
   case neg=>
    rw [if_neg c6] at H;cases H
   rw [if_pos c6] at H;have c6b0:=ct_ c6;clear c6;obtain ⟨t566,A7,H⟩:=ob_ H;by_cases c8:t566=true
   ·subst c8;rw [if_pos rfl] at H;have H':=a_ H;clear H;try go_wp2
    replace HB:=a_ (below_drew1 HB.out);have p564:0≤(x5_1:Int):=md_
    have q564:x5_1<(l0.length:Int):=md_
    obtain ⟨ad564,A564_3,c564_3,e564,hx564_0,hx564_1,hx564_2,hx564_3,hl564_3,hi564_3⟩:=at_T108 HR0.out x5_1 p564 q564;have hw564_3:=hx564_3;have hw564_2:=hx564_2;have hw564_1:=hx564_1;have hw564_0:=hx564_0;cases e564;replace hx564_0:=mx_ HB hx564_0;replace hx564_1:=mx_ HB hx564_1;replace hx564_2:=mx_ HB hx564_2;replace hx564_3:=mx_ HB hx564_3;have HR564_3:=a_ hi564_3;have HC564_3:=a_ hl564_3;clear hi564_3 hl564_3;replace p564:=eq_true p564;replace q564:=eq_true q564;have p565:0≤(x5_1:Int):=md_
    have q565:x5_1<(l1.length:Int):=md_
    obtain ⟨ad565,A565_3,c565_3,e565,hx565_0,hx565_1,hx565_2,hx565_3,hl565_3,hi565_3⟩:=at_T108 HR1.out x5_1 p565 q565;have hw565_3:=hx565_3;have hw565_2:=hx565_2;have hw565_1:=hx565_1;have hw565_0:=hx565_0;cases e565;replace hx565_0:=mx_ HB hx565_0;replace hx565_1:=mx_ HB hx565_1;replace hx565_2:=mx_ HB hx565_2;replace hx565_3:=mx_ HB hx565_3;have HR565_3:=a_ hi565_3;have HC565_3:=a_ hl565_3;clear hi565_3 hl565_3;replace p565:=eq_true p565;replace q565:=eq_true q565;refine start_ (n:=10) (S:=fun w'=>w'.cell? (ad564.add ((x5_1).toNat*4))=some (.int .i64 ((rd_T108 l0 x5_1).f0))∧w'.cell? ⟨(ad564.add ((x5_1).toNat*4)).block,(ad564.add ((x5_1).toNat*4)).off+1,none⟩=some (.int .i64 ((rd_T108 l0 x5_1).f1))∧w'.cell? ⟨(ad564.add ((x5_1).toNat*4)).block,(ad564.add ((x5_1).toNat*4)).off+2,none⟩=some (.string ((rd_T108 l0 x5_1).f2))∧w'.cell? ⟨(ad564.add ((x5_1).toNat*4)).block,(ad564.add ((x5_1).toNat*4)).off+3,none⟩=some (.slice A564_3 ((rd_T108 l0 x5_1).f3).length c564_3)∧w'.cell? (ad565.add ((x5_1).toNat*4))=some (.int .i64 ((rd_T108 l1 x5_1).f0))∧w'.cell? ⟨(ad565.add ((x5_1).toNat*4)).block,(ad565.add ((x5_1).toNat*4)).off+1,none⟩=some (.int .i64 ((rd_T108 l1 x5_1).f1))∧w'.cell? ⟨(ad565.add ((x5_1).toNat*4)).block,(ad565.add ((x5_1).toNat*4)).off+2,none⟩=some (.string ((rd_T108 l1 x5_1).f2))∧w'.cell? ⟨(ad565.add ((x5_1).toNat*4)).block,(ad565.add ((x5_1).toNat*4)).off+3,none⟩=some (.slice A565_3 ((rd_T108 l1 x5_1).f3).length c565_3)) (ds:=[]) b2d9_0 (by kernel_rfl) rfl rfl ⟨(mx_ HB hw564_0),(mx_ HB hw564_1),(mx_ HB hw564_2),(mx_ HB hw564_3),(mx_ HB hw565_0),(mx_ HB hw565_1),(mx_ HB hw565_2),(mx_ HB hw565_3)⟩ (fun hHeld=>?_);refine with_tabW laws_eqActionS.tab6 laws_eqActionS.bits6 (fun HT_ HW_=>?_);generalize wr.drew=w9 at HB HR564_3 HR565_3 hx564_0 hx564_1 hx564_2 hx564_3 hx565_0 hx565_1 hx565_2 hx565_3 hHeld ⊢;refine pu_ 0 17 b2d9_1 (any_of HT_.out (by kernel_rfl)) ?_;refine pu_ 1 18 b2d9_2 (any_of HT_.out (by kernel_rfl)) ?_;refine pu_ 2 19 b2d9_3 (any_of HT_.out (by kernel_rfl)) ?_;refine pu_ 4 21 b2d9_4 (any_of HT_.out (by kernel_rfl)) ?_;refine pu_ 5 22 b2d9_5 (any_of HT_.out (by kernel_rfl)) ?_;refine pu_ 6 23 b2d9_6 (any_of HT_.out (by kernel_rfl)) ?_;refine tk_ 3 20 b2d9_7 (take_ofW HT_.out HW_.out (by kernel_rfl)) hHeld ?_;refine tk_ 7 24 b2d9_8 (take_ofW HT_.out HW_.out (by kernel_rfl)) hHeld ?_
    refine one_ (i:=8) (N:=some 25) b2d9_9 rfl rfl (one_of HT_.out (by kernel_rfl)) (by decide) (fun K hK=>?_);refine goes_ Tryz.func84 (by kernel_rfl) rfl #[.agg #[.int .i64 ((rd_T108 l0 x5_1).f0),.int .i64 ((rd_T108 l0 x5_1).f1),.string ((rd_T108 l0 x5_1).f2),.slice A564_3 ((rd_T108 l0 x5_1).f3).length c564_3],.agg #[.int .i64 ((rd_T108 l1 x5_1).f0),.int .i64 ((rd_T108 l1 x5_1).f1),.string ((rd_T108 l1 x5_1).f2),.slice A565_3 ((rd_T108 l1 x5_1).f3).length c565_3]] (by rfl) rfl rfl mw_ ?_;with_reducible refine (laws_eqAction.calls k1 ((rd_T108 l0 x5_1).f0) ((rd_T108 l0 x5_1).f1) ((rd_T108 l0 x5_1).f2) _ _ ((rd_T108 l0 x5_1).f3) ((rd_T108 l1 x5_1).f0) ((rd_T108 l1 x5_1).f1) ((rd_T108 l1 x5_1).f2) _ _ ((rd_T108 l1 x5_1).f3) true _ ?side1 ?side2 ?side3 ?side4 A7.out).mono ?_
    (case side1=>exact mt_ HR564_3 HB)
    (case side2=>exact HC564_3.out)
    (case side3=>exact mt_ HR565_3 HB)
    (case side4=>exact HC565_3.out)
    rintro e w10 ⟨rfl,hb⟩;refine ⟨_,rfl,?_⟩;replace HB:=ms_ HB hb;(try clear hb);(try clear hb2);(try clear hk);(try clear hi);refine hK.out _ _ ⟨(mx_ HB hw564_0),(mx_ HB hw564_1),(mx_ HB hw564_2),(mx_ HB hw564_3),(mx_ HB hw565_0),(mx_ HB hw565_1),(mx_ HB hw565_2),(mx_ HB hw565_3)⟩ (fun hHeld=>?_);clear hK K;refine nm_ 25 ?_;refine pu_ 9 26 b2d9_10 (any_of HT_.out (by kernel_rfl)) ?_;refine done_ (done_of HT_.out (by kernel_rfl)) ?_;try go_wp2
    go_roundg k1
    case measure=>
     have:=HK1.out
     omega
    case rel=>exact ⟨(wrap64 (x5_1+1)),mq_,H',⟨by have:=HK1.out;omega⟩,⟨mb_ HB⟩⟩
   ·replace c8:=Bool.eq_false_iff.mpr c8;subst c8;rw [if_neg (show ¬(false=true) by decide)] at H;exact absurd (Option.some.inj H) (by decide)
  ·rw [if_neg c4] at H;have c4b0:=cf_ c4;clear c4;clear H;go_wp2;go_ret;exact ⟨me_,mb_ HB⟩
 ·rw [if_neg c3] at H;obtain ⟨c3b0,c3b1⟩:=bn_ c3;have c3b2:(l0.length==l1.length)=false:=by first|simpa using c3|(simp at c3 ⊢;omega)
  exact absurd (Option.some.inj H) (by decide)
def laws_eqRule.f (k:Nat) (a0_0:ByteArray) (a0_1:Int) (l0_2:List (S101)) (l0_3:List (S106)) (l0_4:List (S108)) (a1_0:ByteArray) (a1_1:Int) (l1_2:List (S101)) (l1_3:List (S106)) (l1_4:List (S108)):Option (Bool):=if a0_0.toList=a1_0.toList then (if a0_1=a1_1 then ((laws_eqPatternS.f k l0_2 l1_2).bind fun t569=>(if t569=true then ((laws_eqExprS.f k l0_3 l1_3).bind fun t570=>(if t570=true then ((laws_eqActionS.f k l0_4 l1_4).bind fun t571=>(if t571=true then (some true) else (some false))) else (some false))) else (some false))) else (some false)) else (some false)
theorem laws_eqRule.mono:∀a0 a1 a2 a3 a4 a5 a6 a7 a8 a9 k,LeO (laws_eqRule.f k a0 a1 a2 a3 a4 a5 a6 a7 a8 a9) (laws_eqRule.f (k+1) a0 a1 a2 a3 a4 a5 a6 a7 a8 a9):=by
 intro a0 a1 a2 a3 a4 a5 a6 a7 a8 a9 k;unfold laws_eqRule.f
 repeat' with_reducible first|apply laws_eqActionS.mono|apply laws_eqExprS.mono|apply laws_eqPatternS.mono|apply LeO.refl|apply LeO.none|refine LeO.ite ?_ ?_|refine LeO.bind ?_ (fun _=>?_)
theorem u2d9_0 {p:Prop} (h:p:=by
 rw [if_neg (show ¬(false=true) by decide)] at H;exact absurd (Option.some.inj H) (by decide)):p:=h
set_option maxHeartbeats 8000000 in
set_option maxRecDepth 100000 in
theorem laws_eqRule.calls (k:Nat) (a0_0:ByteArray) (a0_1:Int) (A0_2:Option Addr) (c0_2:Nat) (l0_2:List (S101)) (A0_3:Option Addr) (c0_3:Nat) (l0_3:List (S106)) (A0_4:Option Addr) (c0_4:Nat) (l0_4:List (S108)) (a1_0:ByteArray) (a1_1:Int) (A1_2:Option Addr) (c1_2:Nat) (l1_2:List (S101)) (A1_3:Option Addr) (c1_3:Nat) (l1_3:List (S106)) (A1_4:Option Addr) (c1_4:Nat) (l1_4:List (S108)) (r:Bool) (w:World) (hr0_2:Kd.C k101 w A0_2 l0_2.length l0_2) (hc0_2:l0_2.length≤c0_2) (hr0_3:Kd.C k106 w A0_3 l0_3.length l0_3) (hc0_3:l0_3.length≤c0_3) (hr0_4:Kd.C k108 w A0_4 l0_4.length l0_4) (hc0_4:l0_4.length≤c0_4) (hr1_2:Kd.C k101 w A1_2 l1_2.length l1_2) (hc1_2:l1_2.length≤c1_2) (hr1_3:Kd.C k106 w A1_3 l1_3.length l1_3) (hc1_3:l1_3.length≤c1_3) (hr1_4:Kd.C k108 w A1_4 l1_4.length l1_4) (hc1_4:l1_4.length≤c1_4) (h:laws_eqRule.f k a0_0 a0_1 l0_2 l0_3 l0_4 a1_0 a1_1 l1_2 l1_3 l1_4=some r) (hT_:r=true:=by first|rfl|assumption):
  Calls Tryz.prog 31 #[.agg #[.string a0_0,.int .i64 a0_1,.slice A0_2 l0_2.length c0_2,.slice A0_3 l0_3.length c0_3,.slice A0_4 l0_4.length c0_4],.agg #[.string a1_0,.int .i64 a1_1,.slice A1_2 l1_2.length c1_2,.slice A1_3 l1_3.length c1_3,.slice A1_4 l1_4.length c1_4]] w fun e w'=>e=.returned (.bool r)∧Below w.heap.size w w':=by
 subst hT_;have hu58:=Tryz.underlying58;have HR0_2:=a_ hr0_2;have HC0_2:=a_ hc0_2;clear hr0_2 hc0_2;have HR0_3:=a_ hr0_3;have HC0_3:=a_ hc0_3;clear hr0_3 hc0_3;have HR0_4:=a_ hr0_4;have HC0_4:=a_ hc0_4;clear hr0_4 hc0_4;have HR1_2:=a_ hr1_2;have HC1_2:=a_ hc1_2;clear hr1_2 hc1_2;have HR1_3:=a_ hr1_3;have HC1_3:=a_ hc1_3;clear hr1_3 hc1_3;have HR1_4:=a_ hr1_4;have HC1_4:=a_ hc1_4;clear hr1_4 hc1_4;have HB:=a_ (Below.refl w.heap.size w);have H:=h;unfold laws_eqRule.f at H
 clear h;by_cases c3:a0_0.toList=a1_0.toList
 case neg=>
  rw [if_neg c3] at H;obtain ⟨c3b0,c3b1⟩:=bn_ c3;exact absurd (Option.some.inj H) (by decide)
 rw [if_pos c3] at H;obtain ⟨c3b0,c3b1⟩:=bq_ c3;clear c3;by_cases c4:a0_1=a1_1
 case neg=>
  rw [if_neg c4] at H;obtain ⟨c4b0,c4b1⟩:=bn_ c4;exact absurd (Option.some.inj H) (by decide)
 rw [if_pos c4] at H;obtain ⟨c4b0,c4b1⟩:=bq_ c4;clear c4;obtain ⟨t569,A5,H⟩:=ob_ H;by_cases c6:t569=true
 ·subst c6;rw [if_pos rfl] at H;obtain ⟨t570,A7,H⟩:=ob_ H;by_cases c8:t570=true
  ·subst c8;rw [if_pos rfl] at H;obtain ⟨t571,A9,H⟩:=ob_ H;by_cases c10:t571=true
   ·subst c10;rw [if_pos rfl] at H;clear H;go_enter Tryz.func31,Tryz.ntmps31;go_wp2_with (first|((with_reducible refine gate_dst (N:=2) rfl ?_);refine bh_ 2 #[.string a0_0,.int .i64 a0_1,.slice A0_2 l0_2.length c0_2,.slice A0_3 l0_3.length c0_3,.slice A0_4 l0_4.length c0_4] 58 HB ?_;intro gb567 hg wx BK567 GE567 hb;replace HB:=ms_ HB hb;clear hb hg)|((with_reducible refine gate_dst (N:=3) rfl ?_);refine bh_ 3 #[.string a1_0,.int .i64 a1_1,.slice A1_2 l1_2.length c1_2,.slice A1_3 l1_3.length c1_3,.slice A1_4 l1_4.length c1_4] 58 HB ?_;intro gb568 hg wx BK568 GE568 hb;obtain ⟨NB567_568,NB568_567⟩:=mn_ BK567 hg;replace BK567:=mk_ BK567 hb;replace HB:=ms_ HB hb;clear hb hg;have nNB567_568:=NB567_568.out;have nNB568_567:=NB568_567.out;replace hz567:=cz5 BK567;replace hz568:=cz5 BK568)|((with_reducible refine gate_callee (f:=59) rfl ?_);refine goesL_ (some 19) rfl rfl Tryz.func59 (by kernel_rfl) rfl #[.slice A0_2 l0_2.length c0_2,.slice A1_2 l1_2.length c1_2] rfl mw_ ?_;(with_reducible refine (laws_eqPatternS.calls k _ _ l0_2 _ _ l1_2 true _ ?side1 HC0_2.out ?side3 HC1_2.out A5.out).mono ?_);(case side1=>exact mt_ HR0_2 HB);(case side3=>exact mt_ HR1_2 HB);rintro e wx ⟨rfl,hb⟩;refine ⟨_,rfl,?_⟩;replace BK567:=mk_ BK567 hb;replace BK568:=mk_ BK568 hb;replace HB:=ms_ HB hb;(try clear hb);replace hz567:=cz5 BK567;replace hz568:=cz5 BK568)|((with_reducible refine gate_callee (f:=60) rfl ?_);refine goesL_ (some 25) rfl rfl Tryz.func60 (by kernel_rfl) rfl #[.slice A0_3 l0_3.length c0_3,.slice A1_3 l1_3.length c1_3] rfl mw_ ?_;(with_reducible refine (laws_eqExprS.calls k _ _ l0_3 _ _ l1_3 true _ ?side1 HC0_3.out ?side3 HC1_3.out A7.out).mono ?_);(case side1=>exact mt_ HR0_3 HB);(case side3=>exact mt_ HR1_3 HB);rintro e wx ⟨rfl,hb⟩;refine ⟨_,rfl,?_⟩;replace BK567:=mk_ BK567 hb;replace BK568:=mk_ BK568 hb;replace HB:=ms_ HB hb;(try clear hb);replace hz567:=cz5 BK567;replace hz568:=cz5 BK568)|((with_reducible refine gate_callee (f:=61) rfl ?_);refine goesL_ (some 31) rfl rfl Tryz.func61 (by kernel_rfl) rfl #[.slice A0_4 l0_4.length c0_4,.slice A1_4 l1_4.length c1_4] rfl mw_ ?_;(with_reducible refine (laws_eqActionS.calls k _ _ l0_4 _ _ l1_4 true _ ?side1 HC0_4.out ?side3 HC1_4.out A9.out).mono ?_);(case side1=>exact mt_ HR0_4 HB);(case side3=>exact mt_ HR1_4 HB);rintro e wx ⟨rfl,hb⟩;refine ⟨_,rfl,?_⟩;replace BK567:=mk_ BK567 hb;replace BK568:=mk_ BK568 hb;replace HB:=ms_ HB hb;(try clear hb)));go_ret;exact ⟨me_,mb_ HB⟩
   ·replace c10:=Bool.eq_false_iff.mpr c10;subst c10;exact u2d9_0
  ·replace c8:=Bool.eq_false_iff.mpr c8;subst c8;exact u2d9_0
 ·replace c6:=Bool.eq_false_iff.mpr c6;subst c6;exact u2d9_0
end Go.Proofs.YtejjlkbbnhpbdaaGreat.P
namespace Go.Proofs.YtejjlkbbnhpbdaaGreat.P
open Go.Proofs.YtejjlkbbnhpbdaaGreatX
open Go.RowKit Go.Proofs.YtejjlkbbnhpbdaaGreatW.PrintWords Go.Proofs.YtejjlkbbnhpbdaaGreatW.PrintLast Go.Proofs.YtejjlkbbnhpbdaaGreatW.PrintMore
attribute [local go_sem] max2_int min2_int max_two min_two max_three min_three max_four min_four
set_option linter.unusedVariables false
set_option linter.unusedSimpArgs false
def laws_eqRuleS.l0:Nat→List (S58)→List (S58)→Int→Option (Bool)
 | 0,_,_,_=>none
 | k+1,x0,x1,x5=>if x5<(x0.length:Int) then (if 0≤x5 then (if x5<(x1.length:Int) then ((laws_eqRule.f k ((rd_T58 x0 x5).f0) ((rd_T58 x0 x5).f1) ((rd_T58 x0 x5).f2) ((rd_T58 x0 x5).f3) ((rd_T58 x0 x5).f4) ((rd_T58 x1 x5).f0) ((rd_T58 x1 x5).f1) ((rd_T58 x1 x5).f2) ((rd_T58 x1 x5).f3) ((rd_T58 x1 x5).f4)).bind fun t574=>(if t574=true then (laws_eqRuleS.l0 k x0 x1 (wrap64 (x5+1))) else (some false))) else (none)) else (none)) else (some true)
def laws_eqRuleS.f (k:Nat) (l0:List (S58)) (l1:List (S58)):Option (Bool):=if (l0.length:Int)=(l1.length:Int) then (laws_eqRuleS.l0 k l0 l1 0) else (some false)
theorem laws_eqRuleS.mono_l:∀k,(∀y0 y1 y2,LeO (laws_eqRuleS.l0 k y0 y1 y2) (laws_eqRuleS.l0 (k+1) y0 y1 y2))
 | 0=>fun _ _ _ r h=>by simp [laws_eqRuleS.l0] at h
 | k+1=>by
  have ih0:=laws_eqRuleS.mono_l k
  ·intro y0 y1 y2;unfold laws_eqRuleS.l0
   repeat' with_reducible first|apply ih0|apply laws_eqRule.mono|apply LeO.refl|apply LeO.none|refine LeO.ite ?_ ?_|refine LeO.bind ?_ (fun _=>?_)
theorem laws_eqRuleS.mono:∀a0 a1 k,LeO (laws_eqRuleS.f k a0 a1) (laws_eqRuleS.f (k+1) a0 a1):=by
 intro a0 a1 k;have ih0:=laws_eqRuleS.mono_l k;unfold laws_eqRuleS.f
 repeat' with_reducible first|apply ih0|apply laws_eqRule.mono|apply LeO.refl|apply LeO.none|refine LeO.ite ?_ ?_|refine LeO.bind ?_ (fun _=>?_)
def laws_eqRuleS.T6:Bool×List (List Nat×List Nat):=(true,[([],[]),([],[]),([0,1],[0,1]),([2],[2]),([],[]),([],[]),([4,5],[4,5]),([6],[6]),([3,7],[3,7]),([8],[8])])
def laws_eqRuleS.B6:List Nat:=[0,0,3,7,0,0,48,112,255,511]
theorem laws_eqRuleS.tab6:rtab .any (opsOf Tryz.f11 6)=laws_eqRuleS.T6:=by kernel_rfl
theorem laws_eqRuleS.bits6:waitsOk laws_eqRuleS.T6.2 laws_eqRuleS.B6=true:=by kernel_rfl
abbrev b7be_0:Array Bool:=#[f_,f_,f_,f_,f_,f_,f_,f_,f_,f_]
abbrev b7be_1:Array Bool:=#[t_,f_,f_,f_,f_,f_,f_,f_,f_,f_]
abbrev b7be_2:Array Bool:=#[t_,t_,f_,f_,f_,f_,f_,f_,f_,f_]
abbrev b7be_3:Array Bool:=#[t_,t_,t_,f_,f_,f_,f_,f_,f_,f_]
abbrev b7be_4:Array Bool:=#[t_,t_,t_,f_,t_,f_,f_,f_,f_,f_]
abbrev b7be_5:Array Bool:=#[t_,t_,t_,f_,t_,t_,f_,f_,f_,f_]
abbrev b7be_6:Array Bool:=#[t_,t_,t_,f_,t_,t_,t_,f_,f_,f_]
abbrev b7be_7:Array Bool:=#[t_,t_,t_,t_,t_,t_,t_,f_,f_,f_]
abbrev b7be_8:Array Bool:=#[t_,t_,t_,t_,t_,t_,t_,t_,f_,f_]
abbrev b7be_9:Array Bool:=#[t_,t_,t_,t_,t_,t_,t_,t_,t_,f_]
abbrev b7be_10:Array Bool:=#[t_,t_,t_,t_,t_,t_,t_,t_,t_,t_]
set_option maxHeartbeats 8000000 in
set_option maxRecDepth 100000 in
theorem laws_eqRuleS.calls (k:Nat) (A0:Option Addr) (c0:Nat) (l0:List (S58)) (A1:Option Addr) (c1:Nat) (l1:List (S58)) (r:Bool) (w:World) (hr0:Kd.C k58 w A0 l0.length l0) (hc0:l0.length≤c0) (hr1:Kd.C k58 w A1 l1.length l1) (hc1:l1.length≤c1) (h:laws_eqRuleS.f k l0 l1=some r) (hT_:r=true:=by first|rfl|assumption):
  Calls Tryz.prog 11 #[.slice A0 l0.length c0,.slice A1 l1.length c1] w fun e w'=>e=.returned (.bool r)∧Below w.heap.size w w':=by
 subst hT_;have hu58:=Tryz.underlying58;have HR0:=a_ hr0;have HC0:=a_ hc0;clear hr0 hc0;have HR1:=a_ hr1;have HC1:=a_ hc1;clear hr1 hc1;have HB:=a_ (Below.refl w.heap.size w);have H:(if (l0.length:Int)=(l1.length:Int) then (laws_eqRuleS.l0 k l0 l1 0) else (some false))=some true:=h
 clear h;by_cases c3:(l0.length:Int)=(l1.length:Int)
 ·rw [if_pos c3] at H;obtain ⟨c3b0,c3b1⟩:=bq_ c3;have c3b2:(l0.length==l1.length)=true:=by first|simpa using c3|(simp at c3 ⊢;omega)
  clear c3;have H':=a_ H;clear H;go_enter Tryz.func11,Tryz.ntmps11;go_wp2;go_loopg [5] k (fun kq v5 w'=>∃(x5_1:Int),v5=.int .i64 x5_1∧Aside0 (laws_eqRuleS.l0 kq l0 l1 x5_1=some true)∧Aside0 (kq≤k)∧Aside0 (Below w.heap.size w w'))
  case atStart=>exact ⟨(0),mq_,H',⟨Nat.le_refl _⟩,⟨mb_ HB⟩⟩
  clear H';(try clear c3b0);(try clear c3b1);(try clear c3b2);obtain ⟨x5_1,rfl,HA,HK1,HB⟩:=hrel;obtain _|k1:=gk
  ·exact absurd HA.out (by simp [laws_eqRuleS.l0])
  have H:=HA.out;clear HA;simp only [laws_eqRuleS.l0] at H;by_cases c4:x5_1<(l0.length:Int)
  ·rw [if_pos c4] at H;have c4b0:=ct_ c4;clear c4;by_cases c5:0≤x5_1
   case neg=>
    rw [if_neg c5] at H;cases H
   rw [if_pos c5] at H;have c5b0:=ct_ c5;clear c5;by_cases c6:x5_1<(l1.length:Int)
   case neg=>
    rw [if_neg c6] at H;cases H
   rw [if_pos c6] at H;have c6b0:=ct_ c6;clear c6;obtain ⟨t574,A7,H⟩:=ob_ H;by_cases c8:t574=true
   ·subst c8;rw [if_pos rfl] at H;have H':=a_ H;clear H;try go_wp2
    replace HB:=a_ (below_drew1 HB.out);have p572:0≤(x5_1:Int):=md_
    have q572:x5_1<(l0.length:Int):=md_
    obtain ⟨ad572,A572_2,c572_2,A572_3,c572_3,A572_4,c572_4,e572,hx572_0,hx572_1,hx572_2,hx572_3,hx572_4,hl572_2,hi572_2,hl572_3,hi572_3,hl572_4,hi572_4⟩:=at_T58 HR0.out x5_1 p572 q572;have hw572_4:=hx572_4;have hw572_3:=hx572_3;have hw572_2:=hx572_2;have hw572_1:=hx572_1;have hw572_0:=hx572_0;cases e572;replace hx572_0:=mx_ HB hx572_0;replace hx572_1:=mx_ HB hx572_1;replace hx572_2:=mx_ HB hx572_2;replace hx572_3:=mx_ HB hx572_3;replace hx572_4:=mx_ HB hx572_4;have HR572_2:=a_ hi572_2;have HC572_2:=a_ hl572_2;clear hi572_2 hl572_2;have HR572_3:=a_ hi572_3;have HC572_3:=a_ hl572_3;clear hi572_3 hl572_3;have HR572_4:=a_ hi572_4;have HC572_4:=a_ hl572_4;clear hi572_4 hl572_4;replace p572:=eq_true p572;replace q572:=eq_true q572;have p573:0≤(x5_1:Int):=md_
    have q573:x5_1<(l1.length:Int):=md_
    obtain ⟨ad573,A573_2,c573_2,A573_3,c573_3,A573_4,c573_4,e573,hx573_0,hx573_1,hx573_2,hx573_3,hx573_4,hl573_2,hi573_2,hl573_3,hi573_3,hl573_4,hi573_4⟩:=at_T58 HR1.out x5_1 p573 q573;have hw573_4:=hx573_4;have hw573_3:=hx573_3;have hw573_2:=hx573_2;have hw573_1:=hx573_1;have hw573_0:=hx573_0;cases e573;replace hx573_0:=mx_ HB hx573_0;replace hx573_1:=mx_ HB hx573_1;replace hx573_2:=mx_ HB hx573_2;replace hx573_3:=mx_ HB hx573_3;replace hx573_4:=mx_ HB hx573_4;have HR573_2:=a_ hi573_2;have HC573_2:=a_ hl573_2;clear hi573_2 hl573_2;have HR573_3:=a_ hi573_3;have HC573_3:=a_ hl573_3;clear hi573_3 hl573_3;have HR573_4:=a_ hi573_4;have HC573_4:=a_ hl573_4;clear hi573_4 hl573_4;replace p573:=eq_true p573;replace q573:=eq_true q573;refine start_ (n:=10) (S:=fun w'=>w'.cell? (ad572.add ((x5_1).toNat*5))=some (.string ((rd_T58 l0 x5_1).f0))∧w'.cell? ⟨(ad572.add ((x5_1).toNat*5)).block,(ad572.add ((x5_1).toNat*5)).off+1,none⟩=some (.int .i64 ((rd_T58 l0 x5_1).f1))∧w'.cell? ⟨(ad572.add ((x5_1).toNat*5)).block,(ad572.add ((x5_1).toNat*5)).off+2,none⟩=some (.slice A572_2 ((rd_T58 l0 x5_1).f2).length c572_2)∧w'.cell? ⟨(ad572.add ((x5_1).toNat*5)).block,(ad572.add ((x5_1).toNat*5)).off+3,none⟩=some (.slice A572_3 ((rd_T58 l0 x5_1).f3).length c572_3)∧w'.cell? ⟨(ad572.add ((x5_1).toNat*5)).block,(ad572.add ((x5_1).toNat*5)).off+4,none⟩=some (.slice A572_4 ((rd_T58 l0 x5_1).f4).length c572_4)∧w'.cell? (ad573.add ((x5_1).toNat*5))=some (.string ((rd_T58 l1 x5_1).f0))∧w'.cell? ⟨(ad573.add ((x5_1).toNat*5)).block,(ad573.add ((x5_1).toNat*5)).off+1,none⟩=some (.int .i64 ((rd_T58 l1 x5_1).f1))∧w'.cell? ⟨(ad573.add ((x5_1).toNat*5)).block,(ad573.add ((x5_1).toNat*5)).off+2,none⟩=some (.slice A573_2 ((rd_T58 l1 x5_1).f2).length c573_2)∧w'.cell? ⟨(ad573.add ((x5_1).toNat*5)).block,(ad573.add ((x5_1).toNat*5)).off+3,none⟩=some (.slice A573_3 ((rd_T58 l1 x5_1).f3).length c573_3)∧w'.cell? ⟨(ad573.add ((x5_1).toNat*5)).block,(ad573.add ((x5_1).toNat*5)).off+4,none⟩=some (.slice A573_4 ((rd_T58 l1 x5_1).f4).length c573_4)) (ds:=[]) b7be_0 (by kernel_rfl) rfl rfl ⟨(mx_ HB hw572_0),(mx_ HB hw572_1),(mx_ HB hw572_2),(mx_ HB hw572_3),(mx_ HB hw572_4),(mx_ HB hw573_0),(mx_ HB hw573_1),(mx_ HB hw573_2),(mx_ HB hw573_3),(mx_ HB hw573_4)⟩ (fun hHeld=>?_);refine with_tabW laws_eqRuleS.tab6 laws_eqRuleS.bits6 (fun HT_ HW_=>?_);generalize wr.drew=w9 at HB HR572_2 HR572_3 HR572_4 HR573_2 HR573_3 HR573_4 hx572_0 hx572_1 hx572_2 hx572_3 hx572_4 hx573_0 hx573_1 hx573_2 hx573_3 hx573_4 hHeld ⊢;refine pu_ 0 17 b7be_1 (any_of HT_.out (by kernel_rfl)) ?_;refine pu_ 1 18 b7be_2 (any_of HT_.out (by kernel_rfl)) ?_
    refine pu_ 2 19 b7be_3 (any_of HT_.out (by kernel_rfl)) ?_;refine pu_ 4 21 b7be_4 (any_of HT_.out (by kernel_rfl)) ?_;refine pu_ 5 22 b7be_5 (any_of HT_.out (by kernel_rfl)) ?_;refine pu_ 6 23 b7be_6 (any_of HT_.out (by kernel_rfl)) ?_;refine tk_ 3 20 b7be_7 (take_ofW HT_.out HW_.out (by kernel_rfl)) hHeld ?_;refine tk_ 7 24 b7be_8 (take_ofW HT_.out HW_.out (by kernel_rfl)) hHeld ?_;refine one_ (i:=8) (N:=some 25) b7be_9 rfl rfl (one_of HT_.out (by kernel_rfl)) (by decide) (fun K hK=>?_);refine goes_ Tryz.func31 (by kernel_rfl) rfl #[.agg #[.string ((rd_T58 l0 x5_1).f0),.int .i64 ((rd_T58 l0 x5_1).f1),.slice A572_2 ((rd_T58 l0 x5_1).f2).length c572_2,.slice A572_3 ((rd_T58 l0 x5_1).f3).length c572_3,.slice A572_4 ((rd_T58 l0 x5_1).f4).length c572_4],.agg #[.string ((rd_T58 l1 x5_1).f0),.int .i64 ((rd_T58 l1 x5_1).f1),.slice A573_2 ((rd_T58 l1 x5_1).f2).length c573_2,.slice A573_3 ((rd_T58 l1 x5_1).f3).length c573_3,.slice A573_4 ((rd_T58 l1 x5_1).f4).length c573_4]] (by rfl) rfl rfl mw_ ?_;with_reducible refine (laws_eqRule.calls k1 ((rd_T58 l0 x5_1).f0) ((rd_T58 l0 x5_1).f1) _ _ ((rd_T58 l0 x5_1).f2) _ _ ((rd_T58 l0 x5_1).f3) _ _ ((rd_T58 l0 x5_1).f4) ((rd_T58 l1 x5_1).f0) ((rd_T58 l1 x5_1).f1) _ _ ((rd_T58 l1 x5_1).f2) _ _ ((rd_T58 l1 x5_1).f3) _ _ ((rd_T58 l1 x5_1).f4) true _ ?side1 ?side2 ?side3 ?side4 ?side5 ?side6 ?side7 ?side8 ?side9 ?side10 ?side11 ?side12 A7.out).mono ?_
    (case side1=>exact mt_ HR572_2 HB)
    (case side2=>exact HC572_2.out)
    (case side3=>exact mt_ HR572_3 HB)
    (case side4=>exact HC572_3.out)
    (case side5=>exact mt_ HR572_4 HB)
    (case side6=>exact HC572_4.out)
    (case side7=>exact mt_ HR573_2 HB)
    (case side8=>exact HC573_2.out)
    (case side9=>exact mt_ HR573_3 HB)
    (case side10=>exact HC573_3.out)
    (case side11=>exact mt_ HR573_4 HB)
    (case side12=>exact HC573_4.out)
    rintro e w10 ⟨rfl,hb⟩;refine ⟨_,rfl,?_⟩;replace HB:=ms_ HB hb;(try clear hb);(try clear hb2);(try clear hk);(try clear hi);refine hK.out _ _ ⟨(mx_ HB hw572_0),(mx_ HB hw572_1),(mx_ HB hw572_2),(mx_ HB hw572_3),(mx_ HB hw572_4),(mx_ HB hw573_0),(mx_ HB hw573_1),(mx_ HB hw573_2),(mx_ HB hw573_3),(mx_ HB hw573_4)⟩ (fun hHeld=>?_);clear hK K;refine nm_ 25 ?_;refine pu_ 9 26 b7be_10 (any_of HT_.out (by kernel_rfl)) ?_;refine done_ (done_of HT_.out (by kernel_rfl)) ?_;try go_wp2
    go_roundg k1
    case measure=>
     have:=HK1.out
     omega
    case rel=>exact ⟨(wrap64 (x5_1+1)),mq_,H',⟨by have:=HK1.out;omega⟩,⟨mb_ HB⟩⟩
   ·replace c8:=Bool.eq_false_iff.mpr c8;subst c8;rw [if_neg (show ¬(false=true) by decide)] at H;exact absurd (Option.some.inj H) (by decide)
  ·rw [if_neg c4] at H;have c4b0:=cf_ c4;clear c4;clear H;go_wp2;go_ret;exact ⟨me_,mb_ HB⟩
 ·rw [if_neg c3] at H;obtain ⟨c3b0,c3b1⟩:=bn_ c3;have c3b2:(l0.length==l1.length)=false:=by first|simpa using c3|(simp at c3 ⊢;omega)
  exact absurd (Option.some.inj H) (by decide)
def laws_eqInst.f (k:Nat) (a0_0:Int) (l0_1:List Int) (a1_0:Int) (l1_1:List Int):Option (Bool):=if a0_0=a1_0 then ((laws_eqIntS.f k l0_1 l1_1).bind fun t577=>(if t577=true then (some true) else (some false))) else (some false)
theorem laws_eqInst.mono:∀a0 a1 a2 a3 k,LeO (laws_eqInst.f k a0 a1 a2 a3) (laws_eqInst.f (k+1) a0 a1 a2 a3):=by
 intro a0 a1 a2 a3 k;unfold laws_eqInst.f
 repeat' with_reducible first|apply laws_eqIntS.mono|apply LeO.refl|apply LeO.none|refine LeO.ite ?_ ?_|refine LeO.bind ?_ (fun _=>?_)
set_option maxHeartbeats 8000000 in
set_option maxRecDepth 100000 in
theorem laws_eqInst.calls (k:Nat) (a0_0:Int) (A0_1:Option Addr) (c0_1:Nat) (l0_1:List Int) (a1_0:Int) (A1_1:Option Addr) (c1_1:Nat) (l1_1:List Int) (r:Bool) (w:World) (hr0_1:Kd.C (Kd.int .i64) w A0_1 l0_1.length l0_1) (hc0_1:l0_1.length≤c0_1) (hr1_1:Kd.C (Kd.int .i64) w A1_1 l1_1.length l1_1) (hc1_1:l1_1.length≤c1_1) (h:laws_eqInst.f k a0_0 l0_1 a1_0 l1_1=some r) (hT_:r=true:=by first|rfl|assumption):
  Calls Tryz.prog 12 #[.agg #[.int .i64 a0_0,.slice A0_1 l0_1.length c0_1],.agg #[.int .i64 a1_0,.slice A1_1 l1_1.length c1_1]] w fun e w'=>e=.returned (.bool r)∧Below w.heap.size w w':=by
 subst hT_;have hu31:=Tryz.underlying31;have HR0_1:=a_ hr0_1;have HC0_1:=a_ hc0_1;clear hr0_1 hc0_1;have HR1_1:=a_ hr1_1;have HC1_1:=a_ hc1_1;clear hr1_1 hc1_1;have HB:=a_ (Below.refl w.heap.size w);have H:=h;unfold laws_eqInst.f at H
 clear h;by_cases c3:a0_0=a1_0
 case neg=>
  rw [if_neg c3] at H;obtain ⟨c3b0,c3b1⟩:=bn_ c3;exact absurd (Option.some.inj H) (by decide)
 rw [if_pos c3] at H;obtain ⟨c3b0,c3b1⟩:=bq_ c3;clear c3;obtain ⟨t577,A4,H⟩:=ob_ H;by_cases c5:t577=true
 ·subst c5;rw [if_pos rfl] at H;clear H;go_enter Tryz.func12,Tryz.ntmps12;go_wp2_with (first|((with_reducible refine gate_dst (N:=2) rfl ?_);refine bh_ 2 #[.int .i64 a0_0,.slice A0_1 l0_1.length c0_1] 31 HB ?_;intro gb575 hg wx BK575 GE575 hb;replace HB:=ms_ HB hb;clear hb hg)|((with_reducible refine gate_dst (N:=3) rfl ?_);refine bh_ 3 #[.int .i64 a1_0,.slice A1_1 l1_1.length c1_1] 31 HB ?_;intro gb576 hg wx BK576 GE576 hb;obtain ⟨NB575_576,NB576_575⟩:=mn_ BK575 hg;replace BK575:=mk_ BK575 hb;replace HB:=ms_ HB hb;clear hb hg;have nNB575_576:=NB575_576.out;have nNB576_575:=NB576_575.out;replace hz575:=cz2 BK575;replace hz576:=cz2 BK576)|((with_reducible refine gate_callee (f:=32) rfl ?_);refine goesL_ (some 14) rfl rfl Tryz.func32 (by kernel_rfl) rfl #[.slice A0_1 l0_1.length c0_1,.slice A1_1 l1_1.length c1_1] rfl mw_ ?_;(with_reducible refine (laws_eqIntS.calls k _ _ l0_1 _ _ l1_1 true _ ?side1 HC0_1.out ?side3 HC1_1.out A4.out).mono ?_);(case side1=>exact mt_ HR0_1 HB);(case side3=>exact mt_ HR1_1 HB);rintro e w' ⟨rfl,⟨nd,rfl⟩⟩;refine ⟨_,rfl,?_⟩));go_ret;exact ⟨me_,mb_ HB⟩
 ·replace c5:=Bool.eq_false_iff.mpr c5;subst c5;rw [if_neg (show ¬(false=true) by decide)] at H;exact absurd (Option.some.inj H) (by decide)
end Go.Proofs.YtejjlkbbnhpbdaaGreat.P
namespace Go.Proofs.YtejjlkbbnhpbdaaGreat.P
open Go.Proofs.YtejjlkbbnhpbdaaGreatX
open Go.RowKit Go.Proofs.YtejjlkbbnhpbdaaGreatW.PrintWords Go.Proofs.YtejjlkbbnhpbdaaGreatW.PrintLast Go.Proofs.YtejjlkbbnhpbdaaGreatW.PrintMore
attribute [local go_sem] max2_int min2_int max_two min_two max_three min_three max_four min_four
set_option linter.unusedVariables false
set_option linter.unusedSimpArgs false
def laws_szInstS.l0:Nat→List (S25)→Int→Int→Option (Int)
 | 0,_,_,_=>none
 | k+1,x0,x1,x5=>if x5<(x0.length:Int) then (if 0≤x5 then ((laws_szInst.f ((rd_T25 x0 x5).f0) ((rd_T25 x0 x5).f1) x1).bind fun t624=>(if t624<0 then (some (-1)) else (laws_szInstS.l0 k x0 t624 (wrap64 (x5+1))))) else (none)) else (some x1)
def laws_szInstS.f (k:Nat) (l0:List (S25)) (a1:Int):Option (Int):=if (wrap64 (a1-(l0.length:Int)))<0 then (some (-1)) else (laws_szInstS.l0 k l0 (wrap64 (a1-(l0.length:Int))) 0)
theorem laws_szInstS.mono_l:∀k,(∀y0 y1 y2,LeO (laws_szInstS.l0 k y0 y1 y2) (laws_szInstS.l0 (k+1) y0 y1 y2))
 | 0=>fun _ _ _ r h=>by simp [laws_szInstS.l0] at h
 | k+1=>by
  have ih0:=laws_szInstS.mono_l k
  ·intro y0 y1 y2;unfold laws_szInstS.l0
   repeat' with_reducible first|apply ih0|apply LeO.refl|apply LeO.none|refine LeO.ite ?_ ?_|refine LeO.bind ?_ (fun _=>?_)
theorem laws_szInstS.mono:∀a0 a1 k,LeO (laws_szInstS.f k a0 a1) (laws_szInstS.f (k+1) a0 a1):=by
 intro a0 a1 k;have ih0:=laws_szInstS.mono_l k;unfold laws_szInstS.f
 repeat' with_reducible first|apply ih0|apply LeO.refl|apply LeO.none|refine LeO.ite ?_ ?_|refine LeO.bind ?_ (fun _=>?_)
set_option maxHeartbeats 8000000 in
set_option maxRecDepth 100000 in
theorem laws_szInstS.calls (k:Nat) (A0:Option Addr) (c0:Nat) (l0:List (S25)) (a1:Int) (r:Int) (w:World) (hr0:Kd.C k25 w A0 l0.length l0) (hc0:l0.length≤c0) (h:laws_szInstS.f k l0 a1=some r):
  Calls Tryz.prog 13 #[.slice A0 l0.length c0,.int .i64 a1] w fun e w'=>e=.returned (.int .i64 r)∧Below w.heap.size w w':=by
 have hu25:=Tryz.underlying25;have HR0:=a_ hr0;have HC0:=a_ hc0;clear hr0 hc0;have HB:=a_ (Below.refl w.heap.size w);have H:=h;unfold laws_szInstS.f at H
 clear h;by_cases c3:(wrap64 (a1-(l0.length:Int)))<0
 ·rw [if_pos c3] at H;have c3b0:=ct_ c3;clear c3;obtain rfl:=oi_ H;go_enter Tryz.func13,Tryz.ntmps13;go_wp2;go_ret;exact ⟨me_,mb_ HB⟩
 ·rw [if_neg c3] at H;have c3b0:=cf_ c3;clear c3;have H':=a_ H;clear H;go_enter Tryz.func13,Tryz.ntmps13;go_wp2;go_loopg [1,5] k (fun kq v1 v5 w'=>∃(x1_1:Int) (x5_1:Int),v1=.int .i64 x1_1∧v5=.int .i64 x5_1∧Aside0 (laws_szInstS.l0 kq l0 x1_1 x5_1=some r)∧Aside0 (kq≤k)∧Aside0 (Below w.heap.size w w'))
  case atStart=>exact ⟨(wrap64 (a1-(l0.length:Int))),(0),mq_,mq_,H',⟨Nat.le_refl _⟩,⟨mb_ HB⟩⟩
  clear H';(try clear c3b0);obtain ⟨x1_1,x5_1,rfl,rfl,HA,HK1,HB⟩:=hrel;obtain _|k1:=gk
  ·exact absurd HA.out (by simp [laws_szInstS.l0])
  have H:=HA.out;clear HA;simp only [laws_szInstS.l0] at H;by_cases c4:x5_1<(l0.length:Int)
  ·rw [if_pos c4] at H;have c4b0:=ct_ c4;clear c4;by_cases c5:0≤x5_1
   case neg=>
    rw [if_neg c5] at H;cases H
   rw [if_pos c5] at H;have c5b0:=ct_ c5;clear c5;obtain ⟨t624,A6,H⟩:=ob_ H;by_cases c7:t624<0
   ·rw [if_pos c7] at H;have c7b0:=ct_ c7;clear c7;obtain rfl:=oi_ H;have p623:0≤(x5_1:Int):=md_
    have q623:x5_1<(l0.length:Int):=md_
    obtain ⟨ad623,A623_1,c623_1,e623,hx623_0,hx623_1,hl623_1,hi623_1⟩:=at_T25 HR0.out x5_1 p623 q623;cases e623;replace hx623_0:=mx_ HB hx623_0;replace hx623_1:=mx_ HB hx623_1;have HR623_1:=a_ hi623_1;have HC623_1:=a_ hl623_1;clear hi623_1 hl623_1;replace p623:=eq_true p623;replace q623:=eq_true q623;go_wp2_with (first|((with_reducible refine gate_callee (f:=6) rfl ?_);refine goesL_ (some 23) rfl rfl Tryz.func6 (by kernel_rfl) rfl #[.agg #[.int .i64 ((rd_T25 l0 x5_1).f0),.slice A623_1 ((rd_T25 l0 x5_1).f1).length c623_1],.int .i64 x1_1] rfl mw_ ?_;(with_reducible refine (laws_szInst.calls ((rd_T25 l0 x5_1).f0) _ _ ((rd_T25 l0 x5_1).f1) x1_1 t624 _ ?side1 HC623_1.out A6.out).mono ?_);(case side1=>exact mt_ HR623_1 HB);rintro e wx ⟨rfl,hb⟩;refine ⟨_,rfl,?_⟩;replace HB:=ms_ HB hb;(try clear hb)));go_ret;exact ⟨me_,mb_ HB⟩
   ·rw [if_neg c7] at H;have c7b0:=cf_ c7;clear c7;have H':=a_ H;clear H;have p623:0≤(x5_1:Int):=md_
    have q623:x5_1<(l0.length:Int):=md_
    obtain ⟨ad623,A623_1,c623_1,e623,hx623_0,hx623_1,hl623_1,hi623_1⟩:=at_T25 HR0.out x5_1 p623 q623;cases e623;replace hx623_0:=mx_ HB hx623_0;replace hx623_1:=mx_ HB hx623_1;have HR623_1:=a_ hi623_1;have HC623_1:=a_ hl623_1;clear hi623_1 hl623_1;replace p623:=eq_true p623;replace q623:=eq_true q623;go_wp2_with (first|((with_reducible refine gate_callee (f:=6) rfl ?_);refine goesL_ (some 23) rfl rfl Tryz.func6 (by kernel_rfl) rfl #[.agg #[.int .i64 ((rd_T25 l0 x5_1).f0),.slice A623_1 ((rd_T25 l0 x5_1).f1).length c623_1],.int .i64 x1_1] rfl mw_ ?_;(with_reducible refine (laws_szInst.calls ((rd_T25 l0 x5_1).f0) _ _ ((rd_T25 l0 x5_1).f1) x1_1 t624 _ ?side1 HC623_1.out A6.out).mono ?_);(case side1=>exact mt_ HR623_1 HB);rintro e wx ⟨rfl,hb⟩;refine ⟨_,rfl,?_⟩;replace HB:=ms_ HB hb;(try clear hb)));go_roundg k1
    case measure=>
     have:=HK1.out
     omega
    case rel=>exact ⟨(t624),(wrap64 (x5_1+1)),mq_,mq_,H',⟨by have:=HK1.out;omega⟩,⟨mb_ HB⟩⟩
  ·rw [if_neg c4] at H;have c4b0:=cf_ c4;clear c4;obtain rfl:=oi_ H;go_wp2;go_ret;exact ⟨me_,mb_ HB⟩
def spec_l4Inst.f (a0_0:Int) (l0_1:List Int):Option (Int×List Int):=if ([]:List Int).length+l0_1.length<17592186044416 then (some (a0_0,(([]:List Int)++l0_1))) else (none)
def spec_l4Inst.T2:Bool×List (List Nat×List Nat):=(true,[([],[]),([0],[0]),([],[]),([],[]),([3],[3]),([2,4],[2,4]),([1,5],[1,5]),([6,5,0,1,2,3,4,5,6],[6])])
def spec_l4Inst.B2:List Nat:=[0,1,0,0,8,28,63,127]
theorem spec_l4Inst.tab2:rtab .any (opsOf Tryz.f33 2)=spec_l4Inst.T2:=by kernel_rfl
theorem spec_l4Inst.bits2:waitsOk spec_l4Inst.T2.2 spec_l4Inst.B2=true:=by kernel_rfl
abbrev b051_0:Array Bool:=#[f_,f_,f_,f_,f_,f_,f_,f_]
abbrev b051_1:Array Bool:=#[t_,f_,f_,f_,f_,f_,f_,f_]
abbrev b051_2:Array Bool:=#[t_,f_,t_,f_,f_,f_,f_,f_]
abbrev b051_3:Array Bool:=#[t_,f_,t_,t_,f_,f_,f_,f_]
abbrev b051_4:Array Bool:=#[t_,t_,t_,t_,f_,f_,f_,f_]
abbrev b051_5:Array Bool:=#[t_,t_,t_,t_,t_,f_,f_,f_]
abbrev b051_6:Array Bool:=#[t_,t_,t_,t_,t_,t_,f_,f_]
abbrev b051_7:Array Bool:=#[t_,t_,t_,t_,t_,t_,t_,f_]
abbrev b051_8:Array Bool:=#[t_,t_,t_,t_,t_,t_,t_,t_]
set_option maxHeartbeats 8000000 in
set_option maxRecDepth 100000 in
theorem spec_l4Inst.calls (a0_0:Int) (A0_1:Option Addr) (c0_1:Nat) (l0_1:List Int) (r1:Int) (r2:List Int) (w:World) (hr0_1:Kd.C (Kd.int .i64) w A0_1 l0_1.length l0_1) (hc0_1:l0_1.length≤c0_1) (h:spec_l4Inst.f a0_0 l0_1=some (r1,r2)):
  Calls Tryz.prog 33 #[.agg #[.int .i64 a0_0,.slice A0_1 l0_1.length c0_1]] w fun e w'=>∃v1_:Value,e=.returned (.agg #[.int .i64 r1,v1_])∧Kd.R (Kd.int .i64) 3 w' w.heap.size (fun _=>True) v1_ r2∧Below w.heap.size w w':=by
 have hu31:=Tryz.underlying31;have HR0_1:=a_ hr0_1;have HC0_1:=a_ hc0_1;clear hr0_1 hc0_1;have HB:=a_ (Below.refl w.heap.size w);have H:=h;unfold spec_l4Inst.f at H
 clear h;by_cases c2:([]:List Int).length+l0_1.length<17592186044416
 case neg=>
  rw [if_neg c2] at H;cases H
 rw [if_pos c2] at H;have LMc2:=a_ c2;clear c2;obtain ⟨y627,hy627⟩:∃y_:List Int,y_=(([]:List Int)++l0_1):=⟨_,rfl⟩;rw [←hy627] at H;(try rw [Option.bind_some] at H);have Ny627:=a_ hy627;clear hy627;simp only [Option.some.injEq,Prod.mk.injEq] at H;obtain ⟨rfl,rfl⟩:=H;go_enter Tryz.func33,Tryz.ntmps33;try go_wp2_with (first|((with_reducible refine gate_dst (N:=1) rfl ?_);refine bh_ 1 #[.int .i64 a0_0,.slice A0_1 l0_1.length c0_1] 31 HB ?_;intro gb625 hg w3 BK625 GE625 hb;replace HB:=ms_ HB hb;clear hb hg)|((with_reducible refine gate_dst (N:=2) rfl ?_);refine bh_ 2 #[.int .i64 0,.slice none 0 0] 31 HB ?_;intro gb626 hg w4 BK626 GE626 hb;obtain ⟨NB625_626,NB626_625⟩:=mn_ BK625 hg;replace BK625:=mk_ BK625 hb;replace HB:=ms_ HB hb;clear hb hg))
 replace BK625:=a_ (blk_drew BK625.out);replace BK626:=a_ (blk_drew BK626.out);replace HB:=a_ (below_drew1 HB.out);refine start_ (n:=8) (S:=fun w'=>w'.cell? ⟨gb625,0,none⟩=some (.int .i64 a0_0)∧w'.cell? ⟨gb625,1,none⟩=some (.slice A0_1 l0_1.length c0_1)) (ds:=[]) b051_0 (by kernel_rfl) rfl rfl ⟨bk_ BK625 0,bk_ BK625 1⟩ (fun hHeld=>?_);refine with_tabW spec_l4Inst.tab2 spec_l4Inst.bits2 (fun HT_ HW_=>?_);generalize w4.drew=w5 at BK625 BK626 HB hHeld ⊢;refine pu_ 0 4 b051_1 (any_of HT_.out (by kernel_rfl)) ?_;refine pu_ 2 6 b051_2 (any_of HT_.out (by kernel_rfl)) ?_;refine pu_ 3 7 b051_3 (any_of HT_.out (by kernel_rfl)) ?_;refine tk_ 1 5 b051_4 (take_ofW HT_.out HW_.out (by kernel_rfl)) hHeld ?_;refine tk_ 4 8 b051_5 (take_ofW HT_.out HW_.out (by kernel_rfl)) hHeld ?_;refine one_ (i:=5) (N:=some 9) b051_6 rfl rfl (one_of HT_.out (by kernel_rfl)) (by decide) (fun K hK=>?_);refine Kd.R_append_rows_step (Kd.int .i64) (w0:=w) w.heap.size (by rfl) (.tmp 6) (.tmp 8) 23 3 (.int .i64 0) 8 rfl Tryz.underlying23 info3 rfl (by decide) (by omega) (.slice none 0 0) ([]:List Int) l0_1 _ _ _ (fun _=>True) (fun _=>False) rfl rfl ?aO ?aR (fun _ _ h=>h) (fun _ h=>h.elim) ?aF ?aB ?aS ?aL ?_;(case aR=>repeat (first|exact (Kd.C_below HR0_1.out HB.out)|(with_reducible refine Kd.C_alloc ?_ _)|(with_reducible refine Kd.C_drewN ?_ _)|(with_reducible refine Kd.C_drew ?_)))
 (case aB=>exact (mb_ HB))
 (case aF=>exact (fun _ _=>trivial))
 (case aO=>exact ((Kd.R_nil _ _ _ _ (fun _=>True))))
 (case aS=>exact (below_size (mb_ HB)))
 (case aL=>have:=LMc2.out;omega)
 intro v628 w6 ho hb hg hat;rw [←Ny627.out] at ho;have HO629:=a_ (ho);replace BK625:=a_ (blk_grown (mc_ BK625) hg (by simp [Value.ownBlock]));replace BK626:=a_ (blk_grown (mc_ BK626) hg (by simp [Value.ownBlock]));replace HB:=a_ (hb);clear ho hb hg hat;obtain ⟨Ao7,co7,eo7⟩:=Kd.R_slice HO629.out;(first|subst eo7|(injection eo7 with f1_ f2_ f3_;have f4_:=f1_.symm;have f5_:=f3_.symm;clear f1_ f2_ f3_;subst f4_;subst f5_));refine hK.out _ _ (bc2 BK625) fun hHeld=>?_
 clear hK K;refine nm_ 9 ?_;refine pu_ 6 10 b051_7 (any_of HT_.out (by kernel_rfl)) ?_;refine one_ (i:=7) (N:=none) b051_8 rfl rfl (one_of HT_.out (by kernel_rfl)) (by decide) (fun K hK=>?_);have hs8:w6.cell? ⟨gb626,0,none⟩=some (.int .i64 0):=(blk_cell BK626.out 0).trans rfl
 have hfs8:=blk_frozen BK626.out 0;have hns8_0:=NB625_626.out;have hms8_0:=NB626_625.out;have hs9:w6.cell? ⟨gb626,1,none⟩=some (.slice none 0 0):=(blk_cell BK626.out 1).trans rfl
 have hfs9:=blk_frozen BK626.out 1;have hns9_0:=NB625_626.out;have hms9_0:=NB626_625.out;refine skip_ (w1:=?_) (by rfl) rfl ?_ ?_;rotate_left
 ·go_simp;rfl
 refine hK.out _ _ ⟨((cell_far (p:=⟨gb626,_,none⟩) NB625_626.out _).trans (((cell_far (p:=⟨gb626,_,none⟩) NB625_626.out _).trans (hHeld.1)))),((cell_far (p:=⟨gb626,_,none⟩) NB625_626.out _).trans (((cell_far (p:=⟨gb626,_,none⟩) NB625_626.out _).trans (hHeld.2))))⟩ (fun hHeld=>?_);clear hK K;refine done_ (done_of HT_.out (by kernel_rfl)) ?_;try go_wp2
 refine bodyPost_ret (results_cell_row rfl _ _ gb626 31 #[.int .i64 a0_0,.slice Ao7 y627.length co7] (0,0) _ rfl (mp_ BK626) Tryz.underlying31 rfl (by kernel_rfl)) rfl ?_;exact ⟨_,me_,(Kd.R_mono (mf_ HO629 BK626) (fun _ hk=>trivial)),mb_ HB⟩
end Go.Proofs.YtejjlkbbnhpbdaaGreat.P
namespace Go.Proofs.YtejjlkbbnhpbdaaGreat.P
open Go.Proofs.YtejjlkbbnhpbdaaGreatX
open Go.RowKit Go.Proofs.YtejjlkbbnhpbdaaGreatW.PrintWords Go.Proofs.YtejjlkbbnhpbdaaGreatW.PrintLast Go.Proofs.YtejjlkbbnhpbdaaGreatW.PrintMore
attribute [local go_sem] max2_int min2_int max_two min_two max_three min_three max_four min_four
set_option linter.unusedVariables false
set_option linter.unusedSimpArgs false
mutual
def spec_Agenda.j0:Nat→List (S58)→List (S31)→Bool→Option ((List (S31)))
 | 0,_,_,_=>none
 | k+1,x0,x1,x18=>if x18=true then (some ([]:List (S31))) else (spec_Agenda.l0 k x0 ([]:List (S31)) x1 (x1.length:Int) 0)
def spec_Agenda.l0:Nat→List (S58)→List (S31)→List (S31)→Int→Int→Option ((List (S31)))
 | 0,_,_,_,_,_=>none
 | k+1,x0,x5,x19,x20,x21=>if x21<x20 then (if 0≤x21 then (if x21<(x19.length:Int) then ((spec_l5There.f x0 ((rd_T31 x19 x21).f0) ((rd_T31 x19 x21).f1)).bind fun t633=>(if t633=true then ((spec_l4Inst.f ((rd_T31 x19 x21).f0) ((rd_T31 x19 x21).f1)).bind fun bt634=>(if x5.length<4398046511104 then (spec_Agenda.l0 k x0 (x5++[(⟨bt634.1,bt634.2⟩:S31)]) x19 x20 (wrap64 (x21+1))) else (none))) else (some ([]:List (S31))))) else (none)) else (none)) else (spec_Agenda.l1 k x0 x5 ([]:List (S31)))
def spec_Agenda.l1:Nat→List (S58)→List (S31)→List (S31)→Option ((List (S31)))
 | 0,_,_,_=>none
 | k+1,x0,x5,x8=>if (x5.length:Int)>0 then (spec_Agenda.l2 k x0 x5 x8 0 (x5.length:Int) 0) else (some x8)
def spec_Agenda.l2:Nat→List (S58)→List (S31)→List (S31)→Int→Int→Int→Option ((List (S31)))
 | 0,_,_,_,_,_,_=>none
 | k+1,x0,x5,x8,x9,x39,x40=>if x40<x39 then (if 0≤x40 then (if x40<(x5.length:Int) then (if 0≤x9 then (if x9<(x5.length:Int) then ((spec_l5Before.f k x0 ((rd_T31 x5 x40).f0) ((rd_T31 x5 x40).f1) ((rd_T31 x5 x9).f0) ((rd_T31 x5 x9).f1)).bind fun t643=>(if t643=true then (spec_Agenda.l2 k x0 x5 x8 x40 x39 (wrap64 (x40+1))) else (spec_Agenda.l2 k x0 x5 x8 x9 x39 (wrap64 (x40+1))))) else (none)) else (none)) else (none)) else (none)) else (if 0≤x9 then (if x9<(x5.length:Int) then (if x8.length<4398046511104 then (if 0≤(wrap64 ((x5.length:Int)-1)) then (if (wrap64 ((x5.length:Int)-1))<(x5.length:Int) then (if (wrap64 ((x5.length:Int)-1))≤(x5.length:Int) then (spec_Agenda.l1 k x0 ((x5.set (x9:Int).toNat (⟨(rd_T31 x5 (wrap64 ((x5.length:Int)-1))).f0,(rd_T31 x5 (wrap64 ((x5.length:Int)-1))).f1⟩:S31)).take ((wrap64 ((x5.length:Int)-1)):Int).toNat) (x8++[(⟨(rd_T31 x5 x9).f0,(rd_T31 x5 x9).f1⟩:S31)])) else (none)) else (none)) else (none)) else (none)) else (none)) else (none))
end
def spec_Agenda.f (k:Nat) (l0:List (S58)) (l1:List (S31)):Option ((List (S31))):=if (l1.length:Int)>1000 then (spec_Agenda.j0 k l0 l1 true) else ((spec_l2Checked.f k l0).bind fun t630=>(spec_Agenda.j0 k l0 l1 (!t630)))
theorem spec_Agenda.mono_l:∀k,(∀y0 y1 y2,LeO (spec_Agenda.j0 k y0 y1 y2) (spec_Agenda.j0 (k+1) y0 y1 y2))∧(∀y0 y1 y2 y3 y4,LeO (spec_Agenda.l0 k y0 y1 y2 y3 y4) (spec_Agenda.l0 (k+1) y0 y1 y2 y3 y4))∧(∀y0 y1 y2,LeO (spec_Agenda.l1 k y0 y1 y2) (spec_Agenda.l1 (k+1) y0 y1 y2))∧(∀y0 y1 y2 y3 y4 y5,LeO (spec_Agenda.l2 k y0 y1 y2 y3 y4 y5) (spec_Agenda.l2 (k+1) y0 y1 y2 y3 y4 y5))
 | 0=>⟨fun _ _ _ r h=>by simp [spec_Agenda.j0] at h,fun _ _ _ _ _ r h=>by simp [spec_Agenda.l0] at h,fun _ _ _ r h=>by simp [spec_Agenda.l1] at h,fun _ _ _ _ _ _ r h=>by simp [spec_Agenda.l2] at h⟩
 | k+1=>by
  obtain ⟨ih0,ih1,ih2,ih3⟩:=spec_Agenda.mono_l k;refine ⟨?_,?_,?_,?_⟩
  ·intro y0 y1 y2;unfold spec_Agenda.j0
   repeat' with_reducible first|apply ih0|apply ih1|apply ih2|apply ih3|apply spec_l2Checked.mono|apply spec_l5Before.mono|apply LeO.refl|apply LeO.none|refine LeO.ite ?_ ?_|refine LeO.bind ?_ (fun _=>?_)
  ·intro y0 y1 y2 y3 y4;unfold spec_Agenda.l0
   repeat' with_reducible first|apply ih0|apply ih1|apply ih2|apply ih3|apply spec_l2Checked.mono|apply spec_l5Before.mono|apply LeO.refl|apply LeO.none|refine LeO.ite ?_ ?_|refine LeO.bind ?_ (fun _=>?_)
  ·intro y0 y1 y2;unfold spec_Agenda.l1
   repeat' with_reducible first|apply ih0|apply ih1|apply ih2|apply ih3|apply spec_l2Checked.mono|apply spec_l5Before.mono|apply LeO.refl|apply LeO.none|refine LeO.ite ?_ ?_|refine LeO.bind ?_ (fun _=>?_)
  ·intro y0 y1 y2 y3 y4 y5;unfold spec_Agenda.l2
   repeat' with_reducible first|apply ih0|apply ih1|apply ih2|apply ih3|apply spec_l2Checked.mono|apply spec_l5Before.mono|apply LeO.refl|apply LeO.none|refine LeO.ite ?_ ?_|refine LeO.bind ?_ (fun _=>?_)
theorem spec_Agenda.mono:∀a0 a1 k,LeO (spec_Agenda.f k a0 a1) (spec_Agenda.f (k+1) a0 a1):=by
 intro a0 a1 k;obtain ⟨ih0,ih1,ih2,ih3⟩:=spec_Agenda.mono_l k;unfold spec_Agenda.f
 repeat' with_reducible first|apply ih0|apply ih1|apply ih2|apply ih3|apply spec_l2Checked.mono|apply spec_l5Before.mono|apply LeO.refl|apply LeO.none|refine LeO.ite ?_ ?_|refine LeO.bind ?_ (fun _=>?_)
def spec_Agenda.T17:Bool×List (List Nat×List Nat):=(true,[([],[]),([],[]),([],[]),([1,2],[1,2]),([3],[3]),([],[]),([],[]),([5,6],[5,6]),([7],[7]),([0,4,8],[0,4,8])])
def spec_Agenda.B17:List Nat:=[0,0,0,6,14,0,0,96,224,511]
theorem spec_Agenda.tab17:rtab .any (opsOf Tryz.f14 17)=spec_Agenda.T17:=by kernel_rfl
theorem spec_Agenda.bits17:waitsOk spec_Agenda.T17.2 spec_Agenda.B17=true:=by kernel_rfl
abbrev bf9e_0:Array Bool:=#[f_,f_,f_,f_,f_,f_,f_,f_,f_,f_]
abbrev bf9e_1:Array Bool:=#[t_,f_,f_,f_,f_,f_,f_,f_,f_,f_]
abbrev bf9e_2:Array Bool:=#[t_,t_,f_,f_,f_,f_,f_,f_,f_,f_]
abbrev bf9e_3:Array Bool:=#[t_,t_,t_,f_,f_,f_,f_,f_,f_,f_]
abbrev bf9e_4:Array Bool:=#[t_,t_,t_,t_,f_,f_,f_,f_,f_,f_]
abbrev bf9e_5:Array Bool:=#[t_,t_,t_,t_,f_,t_,f_,f_,f_,f_]
abbrev bf9e_6:Array Bool:=#[t_,t_,t_,t_,f_,t_,t_,f_,f_,f_]
abbrev bf9e_7:Array Bool:=#[t_,t_,t_,t_,f_,t_,t_,t_,f_,f_]
abbrev bf9e_8:Array Bool:=#[t_,t_,t_,t_,t_,t_,t_,t_,f_,f_]
abbrev bf9e_9:Array Bool:=#[t_,t_,t_,t_,t_,t_,t_,t_,t_,f_]
abbrev bf9e_10:Array Bool:=#[t_,t_,t_,t_,t_,t_,t_,t_,t_,t_]
theorem uf9e_0 {p:Prop} (h:p:=by
 go_ret;exact ⟨_,me_,by first|exact Kd.S_nil _ _ _ _ _|exact Kd.N_nil _ _ _ _ _|exact Kd.V_nil _ _ _ _ _|exact Kd.Q_nil _ _ _ _ _|exact Kd.R_nil _ _ _ _ _,mb_ HB⟩):p:=h
set_option maxHeartbeats 8000000 in
set_option maxRecDepth 100000 in
theorem spec_Agenda.calls (k:Nat) (A0:Option Addr) (c0:Nat) (l0:List (S58)) (A1:Option Addr) (c1:Nat) (l1:List (S31)) (r:List (S31)) (w:World) (hr0:Kd.C k58 w A0 l0.length l0) (hc0:l0.length≤c0) (hr1:Kd.C k31 w A1 l1.length l1) (hc1:l1.length≤c1) (h:spec_Agenda.f k l0 l1=some r):
  Calls Tryz.prog 14 #[.slice A0 l0.length c0,.slice A1 l1.length c1] w fun e w'=>∃v0_:Value,e=.returned (v0_)∧Kd.N k31 31 w' w.heap.size (fun k_=>(w.heap.size≤k_)) v0_ r∧Below w.heap.size w w':=by
 have hu31:=Tryz.underlying31;have HR0:=a_ hr0;have HC0:=a_ hc0;clear hr0 hc0;have HR1:=a_ hr1;have HC1:=a_ hc1;clear hr1 hc1;have HB:=a_ (Below.refl w.heap.size w);have H:=h;unfold spec_Agenda.f at H
 clear h;have HC3:=a_ H;clear H;go_enter Tryz.func14,Tryz.ntmps14;go_upto_region 1 with (fail);go_cut [18] (fun v18 wc=>∃(kq:Nat) (x18_2:Bool),v18=.bool x18_2∧Aside0 (spec_Agenda.j0 kq l0 l1 x18_2=some r)∧Aside0 (kq≤k)∧Aside0 (Below w.heap.size w wc))
 case first=>
  have H:=HC3.out;clear HC3;by_cases c4:(l1.length:Int)>1000
  ·rw [if_pos c4] at H;have c4b0:=ct_ c4;have c4b1:decide (1000<l1.length)=true:=decide_eq_true (by omega)
   clear c4;(first|rw [c4b0]|(simp only [i64_w,i32_w];rw [c4b0])|skip);have H':=a_ H;clear H;go_wp2;go_meet
   case rel=>exact ⟨_,(true),mq_,H',⟨by first|omega|exact Nat.le_refl _⟩,⟨mb_ HB⟩⟩
  ·rw [if_neg c4] at H;have c4b0:=cf_ c4;have c4b1:decide (1000<l1.length)=false:=decide_eq_false (by omega)
   clear c4;(first|rw [c4b0]|(simp only [i64_w,i32_w];rw [c4b0])|skip);obtain ⟨t630,A5,H⟩:=ob_ H;have H':=a_ H;clear H;go_wp2_with (first|(go_at_call 24;(with_reducible refine (spec_l2Checked.calls k _ _ l0 t630 _ ?side1 HC0.out A5.out).mono ?_);(case side1=>exact mt_ HR0 HB);rintro e wx ⟨rfl,hb⟩;replace HB:=ms_ HB hb;(try clear hb)));go_meet
   case rel=>exact ⟨_,(!t630),mq_,H',⟨by first|omega|exact Nat.le_refl _⟩,⟨mb_ HB⟩⟩
 clear HC3;obtain ⟨kq,x18_2,rfl,HA,HJ2,HB⟩:=hcut;obtain _|kj2:=kq
 ·exact absurd HA.out (by simp [spec_Agenda.j0])
 have H:=HA.out;clear HA;simp only [spec_Agenda.j0] at H;by_cases c7:x18_2=true
 ·subst c7;rw [if_pos rfl] at H;obtain rfl:=oi_ H;go_wp2;exact uf9e_0
 ·replace c7:=Bool.eq_false_iff.mpr c7;subst c7;rw [if_neg (show ¬(false=true) by decide)] at H;have H':=a_ H;clear H;go_wp2;go_loopg [5,21] kj2 (fun kq v5 v21 w'=>∃(x5_2:List (S31)) (x21_2:Int),v21=.int .i64 x21_2∧Aside0 (spec_Agenda.l0 kq l0 x5_2 l1 (l1.length:Int) x21_2=some r)∧Aside0 (kq≤kj2)∧Aside0 (Kd.N k31 31 w' w.heap.size (fun k_=>(w.heap.size≤k_)) v5 x5_2)∧Aside0 (Below w.heap.size w w'))
  case atStart=>exact ⟨(([]:List (S31))),(0),mq_,H',⟨Nat.le_refl _⟩,⟨by first|exact Kd.S_nil _ _ _ _ _|exact Kd.N_nil _ _ _ _ _|exact Kd.V_nil _ _ _ _ _|exact Kd.Q_nil _ _ _ _ _|exact Kd.R_nil _ _ _ _ _⟩,⟨mb_ HB⟩⟩
  clear H';(try clear c7);obtain ⟨x5_2,x21_2,rfl,HA,HK2,HO_5,HB⟩:=hrel;obtain _|k2:=gk
  ·exact absurd HA.out (by simp [spec_Agenda.l0])
  have H:=HA.out;clear HA;simp only [spec_Agenda.l0] at H;by_cases c8:x21_2<(l1.length:Int)
  ·rw [if_pos c8] at H;have c8b0:=ct_ c8;clear c8;by_cases c9:0≤x21_2
   case neg=>
    rw [if_neg c9] at H;cases H
   rw [if_pos c9] at H;have c9b0:=ct_ c9;clear c9;by_cases c10:x21_2<(l1.length:Int)
   case neg=>
    rw [if_neg c10] at H;cases H
   rw [if_pos c10] at H;have c10b0:=ct_ c10;clear c10;obtain ⟨t633,A11,H⟩:=ob_ H;have HD:=a_ H;clear H;have p631:0≤(x21_2:Int):=md_
   have q631:x21_2<(l1.length:Int):=md_
   obtain ⟨ad631,A631_1,c631_1,e631,hx631_0,hx631_1,hl631_1,hi631_1⟩:=at_T31 HR1.out x21_2 p631 q631;cases e631;replace hx631_0:=mx_ HB hx631_0;replace hx631_1:=mx_ HB hx631_1;have HR631_1:=a_ hi631_1;have HC631_1:=a_ hl631_1;clear hi631_1 hl631_1;replace p631:=eq_true p631;replace q631:=eq_true q631;have H:=HD.out;clear HD;by_cases c12:t633=true
   ·subst c12;rw [if_pos rfl] at H;obtain ⟨⟨t634,t635⟩,A13,H⟩:=ob_ H;by_cases c14:x5_2.length<4398046511104
    case neg=>
     rw [if_neg c14] at H;cases H
    rw [if_pos c14] at H;have LMc14:=a_ c14;clear c14;obtain ⟨y638,hy638⟩:∃y_:List (S31),y_=(x5_2++[(⟨t634,t635⟩:S31)]):=⟨_,rfl⟩;rw [←hy638] at H;(try rw [Option.bind_some] at H);have Ny638:=a_ hy638;clear hy638;have H':=a_ H;clear H;go_wp2_with (first|((with_reducible refine gate_dst (N:=7) rfl ?_);refine bh_ 7 #[.int .i64 0,.slice none 0 0] 31 HB ?_;intro gb632 hg wq0 BK632 GE632 hb;replace HO_5:=a_ (Kd.N_below (Kd.N_elderB (by (with_reducible repeat (first|apply Kd.N_alloc|apply Kd.N_drewN|apply Kd.N_drew));exact HO_5.out) gb632 (Nat.le_of_eq hg.symm)) hb);replace HB:=ms_ HB hb;clear hb hg;replace hz632:=cz2 BK632)|((with_reducible refine gate_callee (f:=23) rfl ?_);refine goesL_ (some 27) rfl rfl Tryz.func23 (by kernel_rfl) rfl #[.slice A0 l0.length c0,.agg #[.int .i64 ((rd_T31 l1 x21_2).f0),.slice A631_1 ((rd_T31 l1 x21_2).f1).length c631_1]] rfl mw_ ?_;(with_reducible refine (spec_l5There.calls _ _ l0 ((rd_T31 l1 x21_2).f0) _ _ ((rd_T31 l1 x21_2).f1) true _ ?side1 HC0.out ?side3 HC631_1.out A11.out).mono ?_);(case side1=>exact Kd.C_below HR0.out (mb_ HB));(case side3=>exact Kd.C_below HR631_1.out (mb_ HB));rintro e wq1 ⟨rfl,hb⟩;refine ⟨_,rfl,?_⟩;replace HO_5:=a_ (Kd.N_below (by (with_reducible repeat (first|apply Kd.N_alloc|apply Kd.N_drewN|apply Kd.N_drew));exact (Kd.N_mono (Kd.N_far (p:=⟨gb632,1,none⟩) (Kd.N_far (p:=⟨gb632,0,none⟩) (Kd.N_mono HO_5.out (fun k_ hk=>(⟨hk,hk.2⟩:_∧k_≠gb632))) (fun _ hk=>hk.2) (.int .i64 ((rd_T31 l1 x21_2).f0))) (fun _ hk=>hk.2) (.slice A631_1 ((rd_T31 l1 x21_2).f1).length c631_1)) (fun _ h_=>h_.1))) hb);replace BK632:=a_ (blk_below (g:=gb632) (o:=.cells #[.int .i64 ((rd_T31 l1 x21_2).f0),.slice A631_1 ((rd_T31 l1 x21_2).f1).length c631_1] 31 (0,0)) (mp_ BK632) hb);replace HB:=ms_ HB hb;(try clear hb);replace hz632:=cz2 BK632)|((with_reducible refine gate_callee (f:=33) rfl ?_);refine goesL_ (some 31) rfl rfl Tryz.func33 (by kernel_rfl) rfl #[.agg #[.int .i64 ((rd_T31 l1 x21_2).f0),.slice A631_1 ((rd_T31 l1 x21_2).f1).length c631_1]] rfl mw_ ?_;(with_reducible refine (spec_l4Inst.calls ((rd_T31 l1 x21_2).f0) _ _ ((rd_T31 l1 x21_2).f1) t634 t635 _ ?side1 HC631_1.out A13.out).mono ?_);(case side1=>exact mt_ HR631_1 HB);rintro e wq2 ⟨vq3,rfl,hoq4,hb⟩;refine ⟨_,rfl,?_⟩;have HOq5:=a_ (Kd.R_lower (Kd.R_newM (M:=fun k_=>(w.heap.size≤k_)) hoq4 (below_size (mb_ HB)) (fun k_ h_=>h_)) (below_size (mb_ HB)));replace HO_5:=a_ (Kd.N_elder' (by (with_reducible repeat (first|apply Kd.N_alloc|apply Kd.N_drewN|apply Kd.N_drew));exact HO_5.out) (Kd.R_base hoq4) hb);replace BK632:=mk_ BK632 hb;replace HB:=ms_ HB hb;(try clear hb hoq4);obtain ⟨Aoq6,coq7,eoq8⟩:=Kd.R_slice HOq5.out;subst eoq8)|((with_reducible refine gate_builtin (b:=.append) (xs:=#[.tmp 29,.tmp 32]) rfl ?_);at_builtin;refine Kd.N_append k31 (w0:=w) w.heap.size rfl (.tmp 29) (.tmp 32) 38 31 (.agg #[(.int .i64 0),(.slice none 0 0)]) 32 rfl Tryz.underlying38 info31 rfl (by decide) (by omega) u5 x5_2 (⟨t634,t635⟩:S31) [.int .i64 t634,.slice Aoq6 t635.length coq7] (fun k_=>(w.heap.size≤k_)∧k_≠gb632) (fun k_=>((fun k_=>(w.heap.size≤k_)∧k_≠gb632)) k_∧some k_≠(u5:Value).ownBlock) rfl rfl ?aP (fun _ hk=>hk) ?aF ?aO ?aB ?aS ?aL ?_;(case aP=>exact (k31_mkF _ _ (⟨t634,t635⟩:S31) (Kd.R_reads' (Kd.R_mono (ok':=(fun k_=>((fun k_=>(w.heap.size≤k_)∧k_≠gb632)) k_∧some k_≠(u5:Value).ownBlock)) (Kd.R_types (Kd.R_apart' (HOq5.out) (Kd.N_typed HO_5.out) (by decide)) BK632.out (by decide)) (fun k_ hk=>⟨⟨hk.1.1.1,hk.2⟩,hk.1.2⟩))).2.1 (Kd.R_F (Kd.R_mono (ok':=(fun k_=>((fun k_=>(w.heap.size≤k_)∧k_≠gb632)) k_∧some k_≠(u5:Value).ownBlock)) (Kd.R_types (Kd.R_apart' (HOq5.out) (Kd.N_typed HO_5.out) (by decide)) BK632.out (by decide)) (fun k_ hk=>⟨⟨hk.1.1.1,hk.2⟩,hk.1.2⟩)))));(case aB=>exact (mb_ HB));(case aF=>exact (fun k_ hk=>⟨(Nat.le_trans (below_size (mb_ HB)) hk),Kd.freshB (g:=gb632) (o:=.cells #[.int .i64 ((rd_T31 l1 x21_2).f0),.slice A631_1 ((rd_T31 l1 x21_2).f1).length c631_1] 31 (0,0)) (mc_ BK632) k_ hk⟩));(case aO=>exact (by (with_reducible repeat (first|apply Kd.N_alloc|apply Kd.N_drewN|apply Kd.N_drew));exact Kd.N_mono HO_5.out (fun _ hk=>⟨hk.1.1,hk.1.2⟩)));(case aS=>exact (below_size (mb_ HB)));(case aL=>have:=LMc14.out;omega);intro vq9 wq10 ho hb hg hat;rw [←Ny638.out] at ho;have HOq11:=a_ (ho);replace BK632:=a_ (blk_grown (mc_ BK632) hg (Kd.N_away HO_5.out (fun _ hk=>hk.1.2)));replace HB:=a_ (hb);clear HO_5 HOq5;clear ho hb hg hat))
    go_roundg k2
    case measure=>
     have:=HJ2.out
     have:=HK2.out
     omega
    case rel=>exact ⟨(y638),(wrap64 (x21_2+1)),mq_,H',⟨by have:=HJ2.out;have:=HK2.out;omega⟩,⟨by (with_reducible repeat (first|apply Kd.N_alloc|apply Kd.N_drewN|apply Kd.N_drew));exact Kd.N_mono HOq11.out (fun _ hk=>hk.1)⟩,⟨mb_ HB⟩⟩
   ·replace c12:=Bool.eq_false_iff.mpr c12;subst c12;rw [if_neg (show ¬(false=true) by decide)] at H;obtain rfl:=oi_ H;go_wp2_with (first|((with_reducible refine gate_dst (N:=7) rfl ?_);refine bh_ 7 #[.int .i64 0,.slice none 0 0] 31 HB ?_;intro gb632 hg wq0 BK632 GE632 hb;replace HO_5:=a_ (Kd.N_below (Kd.N_elderB (by (with_reducible repeat (first|apply Kd.N_alloc|apply Kd.N_drewN|apply Kd.N_drew));exact HO_5.out) gb632 (Nat.le_of_eq hg.symm)) hb);replace HB:=ms_ HB hb;clear hb hg;replace hz632:=cz2 BK632)|((with_reducible refine gate_callee (f:=23) rfl ?_);refine goesL_ (some 27) rfl rfl Tryz.func23 (by kernel_rfl) rfl #[.slice A0 l0.length c0,.agg #[.int .i64 ((rd_T31 l1 x21_2).f0),.slice A631_1 ((rd_T31 l1 x21_2).f1).length c631_1]] rfl mw_ ?_;(with_reducible refine (spec_l5There.calls _ _ l0 ((rd_T31 l1 x21_2).f0) _ _ ((rd_T31 l1 x21_2).f1) false _ ?side1 HC0.out ?side3 HC631_1.out A11.out).mono ?_);(case side1=>exact Kd.C_below HR0.out (mb_ HB));(case side3=>exact Kd.C_below HR631_1.out (mb_ HB));rintro e wq1 ⟨rfl,hb⟩;refine ⟨_,rfl,?_⟩;replace HO_5:=a_ (Kd.N_below (by (with_reducible repeat (first|apply Kd.N_alloc|apply Kd.N_drewN|apply Kd.N_drew));exact (Kd.N_mono (Kd.N_far (p:=⟨gb632,1,none⟩) (Kd.N_far (p:=⟨gb632,0,none⟩) (Kd.N_mono HO_5.out (fun k_ hk=>(⟨hk,hk.2⟩:_∧k_≠gb632))) (fun _ hk=>hk.2) (.int .i64 ((rd_T31 l1 x21_2).f0))) (fun _ hk=>hk.2) (.slice A631_1 ((rd_T31 l1 x21_2).f1).length c631_1)) (fun _ h_=>h_.1))) hb);replace BK632:=a_ (blk_below (g:=gb632) (o:=.cells #[.int .i64 ((rd_T31 l1 x21_2).f0),.slice A631_1 ((rd_T31 l1 x21_2).f1).length c631_1] 31 (0,0)) (mp_ BK632) hb);replace HB:=ms_ HB hb;(try clear hb)));exact uf9e_0
  ·rw [if_neg c8] at H;have c8b0:=cf_ c8;clear c8;have H':=a_ H;clear H;go_wp2;go_loopg [5,8] k2 (fun kq v5 v8 w'=>∃(x5_3:List (S31)) (x8_3:List (S31)),Aside0 (spec_Agenda.l1 kq l0 x5_3 x8_3=some r)∧Aside0 (kq≤k2)∧Aside0 (Kd.N k31 31 w' w.heap.size (fun k_=>(w.heap.size≤k_)∧some k_≠(v8:Value).ownBlock) v5 x5_3)∧Aside0 (Kd.N k31 31 w' w.heap.size (fun k_=>(w.heap.size≤k_)∧some k_≠(v5:Value).ownBlock) v8 x8_3)∧Aside0 (Below w.heap.size w w'))
   case atStart=>exact ⟨(x5_2),(([]:List (S31))),H',⟨Nat.le_refl _⟩,⟨by (with_reducible repeat (first|apply Kd.N_alloc|apply Kd.N_drewN|apply Kd.N_drew));exact Kd.N_mono HO_5.out (fun _ hk=>⟨hk,(by simp [Value.ownBlock])⟩)⟩,⟨by first|exact Kd.S_nil _ _ _ _ _|exact Kd.N_nil _ _ _ _ _|exact Kd.V_nil _ _ _ _ _|exact Kd.Q_nil _ _ _ _ _|exact Kd.R_nil _ _ _ _ _⟩,⟨mb_ HB⟩⟩
   clear H';(try clear c8b0);obtain ⟨x5_3,x8_3,HA,HK3,HO_5,HO_8,HB⟩:=hrel;obtain _|k3:=gk
   ·exact absurd HA.out (by simp [spec_Agenda.l1])
   have H:=HA.out;clear HA;simp only [spec_Agenda.l1] at H;by_cases c25:(x5_3.length:Int)>0
   ·rw [if_pos c25] at H;have c25b0:=ct_ c25;have c25b1:decide (0<x5_3.length)=true:=decide_eq_true (by omega)
    clear c25;have H':=a_ H;clear H;obtain ⟨Ao26,co26,eo26⟩:=Kd.N_slice HO_5.out;subst eo26;go_wp2;go_loopg [9,40] k3 (fun kq v9 v40 w'=>∃(x9_4:Int) (x40_4:Int),v9=.int .i64 x9_4∧v40=.int .i64 x40_4∧Aside0 (spec_Agenda.l2 kq l0 x5_3 x8_3 x9_4 (x5_3.length:Int) x40_4=some r)∧Aside0 (kq≤k3)∧Aside0 (Kd.N k31 31 w' w.heap.size (fun k_=>(w.heap.size≤k_)∧some k_≠(u8:Value).ownBlock) (.slice Ao26 x5_3.length co26) x5_3)∧Aside0 (Kd.N k31 31 w' w.heap.size (fun k_=>(w.heap.size≤k_)∧some k_≠((.slice Ao26 x5_3.length co26):Value).ownBlock) u8 x8_3)∧Aside0 (Below w.heap.size w w'))
    case atStart=>exact ⟨(0),(0),mq_,mq_,H',⟨Nat.le_refl _⟩,⟨by (with_reducible repeat (first|apply Kd.N_alloc|apply Kd.N_drewN|apply Kd.N_drew));exact HO_5.out⟩,⟨by (with_reducible repeat (first|apply Kd.N_alloc|apply Kd.N_drewN|apply Kd.N_drew));exact HO_8.out⟩,⟨mb_ HB⟩⟩
    clear H';(try clear c25b0);(try clear c25b1);obtain ⟨x9_4,x40_4,rfl,rfl,HA,HK4,HO_5,HO_8,HB⟩:=hrel;obtain _|k4:=gk
    ·exact absurd HA.out (by simp [spec_Agenda.l2])
    have H:=HA.out;clear HA;simp only [spec_Agenda.l2] at H;by_cases c27:x40_4<(x5_3.length:Int)
    ·rw [if_pos c27] at H;have c27b0:=ct_ c27;clear c27;by_cases c28:0≤x40_4
     case neg=>
      rw [if_neg c28] at H;cases H
     rw [if_pos c28] at H;have c28b0:=ct_ c28;clear c28;by_cases c29:x40_4<(x5_3.length:Int)
     case neg=>
      rw [if_neg c29] at H;cases H
     rw [if_pos c29] at H;have c29b0:=ct_ c29;clear c29;by_cases c30:0≤x9_4
     case neg=>
      rw [if_neg c30] at H;cases H
     rw [if_pos c30] at H;have c30b0:=ct_ c30;clear c30;by_cases c31:x9_4<(x5_3.length:Int)
     case neg=>
      rw [if_neg c31] at H;cases H
     rw [if_pos c31] at H;have c31b0:=ct_ c31;clear c31;obtain ⟨t643,A32,H⟩:=ob_ H;have HD:=a_ H;clear H;try go_wp2
     replace HO_5:=a_ (Kd.N_drew HO_5.out);replace HO_8:=a_ (Kd.N_drew HO_8.out);replace HB:=a_ (below_drew1 HB.out);have p641:0≤(x40_4:Int):=md_
     have q641:x40_4<(x5_3.length:Int):=md_
     obtain ⟨ad641,A641_1,c641_1,e641,hx641_0,hx641_1,hl641_1,hi641_1⟩:=at_T31 (Kd.N_reads' HO_5.out).2.2 x40_4 p641 q641;cases e641;obtain ⟨ce641,hce641,hMe641,hcc641⟩:=Kd.N_get HO_5.out z31 x40_4 p641 (by first|exact q641|exact md_|(have e_:=(Kd.N_reads' HO_5.out).1;omega));obtain ⟨ua641_1,uc641_1,rfl,ul641_1,ge641_1⟩:=k31_openF hMe641;have hv641_1:=hcc641 1 _ rfl;rw [add_field _ _ 1 (by omega)] at hv641_1;replace hv641_1:=Option.some.inj (hv641_1.symm.trans hx641_1);injection hv641_1 with hva_ hvn_ hvc_
     rw [hva_] at ge641_1;rw [hvc_] at ul641_1;have HL641_1:=a_ (show Kd.V (Kd.int .i64) 3 _ w.heap.size _ _ ((rd_T31 x5_3 x40_4).f1) from Kd.V_mk ul641_1 ge641_1);clear hva_ hvn_ hvc_ ge641_1 ul641_1;clear hcc641 hce641;have HR641_1:=a_ hi641_1;have HC641_1:=a_ hl641_1;clear hi641_1 hl641_1;replace p641:=eq_true p641;replace q641:=eq_true q641;have p642:0≤(x9_4:Int):=md_
     have q642:x9_4<(x5_3.length:Int):=md_
     obtain ⟨ad642,A642_1,c642_1,e642,hx642_0,hx642_1,hl642_1,hi642_1⟩:=at_T31 (Kd.N_reads' HO_5.out).2.2 x9_4 p642 q642;obtain rfl:ad641=ad642:=(by injection e642);obtain ⟨ce642,hce642,hMe642,hcc642⟩:=Kd.N_get HO_5.out z31 x9_4 p642 (by first|exact q642|exact md_|(have e_:=(Kd.N_reads' HO_5.out).1;omega));obtain ⟨ua642_1,uc642_1,rfl,ul642_1,ge642_1⟩:=k31_openF hMe642;have hv642_1:=hcc642 1 _ rfl;rw [add_field _ _ 1 (by omega)] at hv642_1;replace hv642_1:=Option.some.inj (hv642_1.symm.trans hx642_1);injection hv642_1 with hva_ hvn_ hvc_
     rw [hva_] at ge642_1;rw [hvc_] at ul642_1;have HL642_1:=a_ (show Kd.V (Kd.int .i64) 3 _ w.heap.size _ _ ((rd_T31 x5_3 x9_4).f1) from Kd.V_mk ul642_1 ge642_1);clear hva_ hvn_ hvc_ ge642_1 ul642_1;clear hcc642 hce642;have HR642_1:=a_ hi642_1;have HC642_1:=a_ hl642_1;clear hi642_1 hl642_1;replace p642:=eq_true p642;replace q642:=eq_true q642;refine start_ (n:=10) (S:=fun w'=>w'.cell? (ad641.add ((x40_4).toNat*2))=some (.int .i64 ((rd_T31 x5_3 x40_4).f0))∧w'.cell? ⟨(ad641.add ((x40_4).toNat*2)).block,(ad641.add ((x40_4).toNat*2)).off+1,none⟩=some (.slice A641_1 ((rd_T31 x5_3 x40_4).f1).length c641_1)∧w'.cell? (ad641.add ((x9_4).toNat*2))=some (.int .i64 ((rd_T31 x5_3 x9_4).f0))∧w'.cell? ⟨(ad641.add ((x9_4).toNat*2)).block,(ad641.add ((x9_4).toNat*2)).off+1,none⟩=some (.slice A642_1 ((rd_T31 x5_3 x9_4).f1).length c642_1)) (ds:=[]) bf9e_0 (by kernel_rfl) rfl rfl ⟨hx641_0,hx641_1,hx642_0,hx642_1⟩ (fun hHeld=>?_);refine with_tabW spec_Agenda.tab17 spec_Agenda.bits17 (fun HT_ HW_=>?_);generalize wr.drew=wq0 at HO_5 HO_8 HB HL641_1 HL642_1 HR641_1 HR642_1 hx641_0 hx641_1 hx642_0 hx642_1 hHeld ⊢;refine pu_ 0 43 bf9e_1 (any_of HT_.out (by kernel_rfl)) ?_;refine pu_ 1 44 bf9e_2 (any_of HT_.out (by kernel_rfl)) ?_;refine pu_ 2 45 bf9e_3 (any_of HT_.out (by kernel_rfl)) ?_;refine pu_ 3 46 bf9e_4 (any_of HT_.out (by kernel_rfl)) ?_;refine pu_ 5 48 bf9e_5 (any_of HT_.out (by kernel_rfl)) ?_;refine pu_ 6 49 bf9e_6 (any_of HT_.out (by kernel_rfl)) ?_;refine pu_ 7 50 bf9e_7 (any_of HT_.out (by kernel_rfl)) ?_;refine tk_ 4 47 bf9e_8 (take_ofW HT_.out HW_.out (by kernel_rfl)) hHeld ?_;refine tk_ 8 51 bf9e_9 (take_ofW HT_.out HW_.out (by kernel_rfl)) hHeld ?_;have H:=HD.out;clear HD;by_cases c33:t643=true
     ·subst c33;rw [if_pos rfl] at H;have H':=a_ H;clear H;refine one_ (i:=9) (N:=some 52) bf9e_10 rfl rfl (one_of HT_.out (by kernel_rfl)) (by decide) (fun K hK=>?_);refine goes_ Tryz.func25 (by kernel_rfl) rfl #[.slice A0 l0.length c0,.agg #[.int .i64 ((rd_T31 x5_3 x40_4).f0),.slice A641_1 ((rd_T31 x5_3 x40_4).f1).length c641_1],.agg #[.int .i64 ((rd_T31 x5_3 x9_4).f0),.slice A642_1 ((rd_T31 x5_3 x9_4).f1).length c642_1]] (by rfl) rfl rfl mw_ ?_;with_reducible refine (spec_l5Before.calls k4 _ _ l0 ((rd_T31 x5_3 x40_4).f0) _ _ ((rd_T31 x5_3 x40_4).f1) ((rd_T31 x5_3 x9_4).f0) _ _ ((rd_T31 x5_3 x9_4).f1) true _ ?side1 ?side2 ?side3 ?side4 ?side5 ?side6 A32.out).mono ?_
      (case side1=>exact mt_ HR0 HB)
      (case side2=>exact HC0.out)
      (case side3=>repeat (first|exact (by repeat (first|(with_reducible exact HR641_1.out)|(with_reducible refine Kd.C_alloc ?_ _)|(with_reducible refine Kd.C_drewN ?_ _)|(with_reducible refine Kd.C_drew ?_)|exact HR641_1.out))|(with_reducible refine Kd.C_alloc ?_ _)|(with_reducible refine Kd.C_drewN ?_ _)|(with_reducible refine Kd.C_drew ?_)))
      (case side4=>exact HC641_1.out)
      (case side5=>repeat (first|exact (by repeat (first|(with_reducible exact HR642_1.out)|(with_reducible refine Kd.C_alloc ?_ _)|(with_reducible refine Kd.C_drewN ?_ _)|(with_reducible refine Kd.C_drew ?_)|exact HR642_1.out))|(with_reducible refine Kd.C_alloc ?_ _)|(with_reducible refine Kd.C_drewN ?_ _)|(with_reducible refine Kd.C_drew ?_)))
      (case side6=>exact HC642_1.out)
      rintro e wq1 ⟨rfl,hb⟩;have HS0_:=(hb.cell (World.block_lt_of_cell? _ _ (hHeld.1))).trans (hHeld.1);have HS1_:=(hb.cell (World.block_lt_of_cell? _ _ (hHeld.2.1))).trans (hHeld.2.1);have HS2_:=(hb.cell (World.block_lt_of_cell? _ _ (hHeld.2.2.1))).trans (hHeld.2.2.1);have HS3_:=(hb.cell (World.block_lt_of_cell? _ _ (hHeld.2.2.2))).trans (hHeld.2.2.2);refine ⟨_,rfl,?_⟩;replace HO_5:=a_ (Kd.N_below (by (with_reducible repeat (first|apply Kd.N_alloc|apply Kd.N_drewN|apply Kd.N_drew));exact HO_5.out) hb);replace HO_8:=a_ (Kd.N_below (by (with_reducible repeat (first|apply Kd.N_alloc|apply Kd.N_drewN|apply Kd.N_drew));exact HO_8.out) hb);replace HL641_1:=a_ (Kd.V_below (by (with_reducible repeat (first|apply Kd.V_alloc|apply Kd.V_drewN|apply Kd.V_drew));exact HL641_1.out) hb);replace HL642_1:=a_ (Kd.V_below (by (with_reducible repeat (first|apply Kd.V_alloc|apply Kd.V_drewN|apply Kd.V_drew));exact HL642_1.out) hb);replace HR641_1:=a_ (Kd.C_below (by repeat (first|(with_reducible exact HR641_1.out)|(with_reducible refine Kd.C_alloc ?_ _)|(with_reducible refine Kd.C_drewN ?_ _)|(with_reducible refine Kd.C_drew ?_)|exact HR641_1.out)) hb);replace HR642_1:=a_ (Kd.C_below (by repeat (first|(with_reducible exact HR642_1.out)|(with_reducible refine Kd.C_alloc ?_ _)|(with_reducible refine Kd.C_drewN ?_ _)|(with_reducible refine Kd.C_drew ?_)|exact HR642_1.out)) hb);replace HB:=ms_ HB hb;(try clear hb);(try clear hb2);(try clear hk);(try clear hi);refine hK.out _ _ ⟨HS0_,HS1_,HS2_,HS3_⟩ (fun hHeld=>?_);clear hK K;refine nm_ 52 ?_;refine done_ (done_of HT_.out (by kernel_rfl)) ?_;try go_wp2
      go_roundg k4
      case measure=>
       have:=HJ2.out
       have:=HK2.out
       have:=HK3.out
       have:=HK4.out
       omega
      case rel=>exact ⟨(x40_4),(wrap64 (x40_4+1)),mq_,mq_,H',⟨by have:=HJ2.out;have:=HK2.out;have:=HK3.out;have:=HK4.out;omega⟩,⟨by (with_reducible repeat (first|apply Kd.N_alloc|apply Kd.N_drewN|apply Kd.N_drew));exact HO_5.out⟩,⟨by (with_reducible repeat (first|apply Kd.N_alloc|apply Kd.N_drewN|apply Kd.N_drew));exact HO_8.out⟩,⟨mb_ HB⟩⟩
     ·replace c33:=Bool.eq_false_iff.mpr c33;subst c33;rw [if_neg (show ¬(false=true) by decide)] at H;have H':=a_ H;clear H;refine one_ (i:=9) (N:=some 52) bf9e_10 rfl rfl (one_of HT_.out (by kernel_rfl)) (by decide) (fun K hK=>?_);refine goes_ Tryz.func25 (by kernel_rfl) rfl #[.slice A0 l0.length c0,.agg #[.int .i64 ((rd_T31 x5_3 x40_4).f0),.slice A641_1 ((rd_T31 x5_3 x40_4).f1).length c641_1],.agg #[.int .i64 ((rd_T31 x5_3 x9_4).f0),.slice A642_1 ((rd_T31 x5_3 x9_4).f1).length c642_1]] (by rfl) rfl rfl mw_ ?_;with_reducible refine (spec_l5Before.calls k4 _ _ l0 ((rd_T31 x5_3 x40_4).f0) _ _ ((rd_T31 x5_3 x40_4).f1) ((rd_T31 x5_3 x9_4).f0) _ _ ((rd_T31 x5_3 x9_4).f1) false _ ?side1 ?side2 ?side3 ?side4 ?side5 ?side6 A32.out).mono ?_
      (case side1=>exact mt_ HR0 HB)
      (case side2=>exact HC0.out)
      (case side3=>repeat (first|exact (by repeat (first|(with_reducible exact HR641_1.out)|(with_reducible refine Kd.C_alloc ?_ _)|(with_reducible refine Kd.C_drewN ?_ _)|(with_reducible refine Kd.C_drew ?_)|exact HR641_1.out))|(with_reducible refine Kd.C_alloc ?_ _)|(with_reducible refine Kd.C_drewN ?_ _)|(with_reducible refine Kd.C_drew ?_)))
      (case side4=>exact HC641_1.out)
      (case side5=>repeat (first|exact (by repeat (first|(with_reducible exact HR642_1.out)|(with_reducible refine Kd.C_alloc ?_ _)|(with_reducible refine Kd.C_drewN ?_ _)|(with_reducible refine Kd.C_drew ?_)|exact HR642_1.out))|(with_reducible refine Kd.C_alloc ?_ _)|(with_reducible refine Kd.C_drewN ?_ _)|(with_reducible refine Kd.C_drew ?_)))
      (case side6=>exact HC642_1.out)
      rintro e wq1 ⟨rfl,hb⟩;have HS0_:=(hb.cell (World.block_lt_of_cell? _ _ (hHeld.1))).trans (hHeld.1);have HS1_:=(hb.cell (World.block_lt_of_cell? _ _ (hHeld.2.1))).trans (hHeld.2.1);have HS2_:=(hb.cell (World.block_lt_of_cell? _ _ (hHeld.2.2.1))).trans (hHeld.2.2.1);have HS3_:=(hb.cell (World.block_lt_of_cell? _ _ (hHeld.2.2.2))).trans (hHeld.2.2.2);refine ⟨_,rfl,?_⟩;replace HO_5:=a_ (Kd.N_below (by (with_reducible repeat (first|apply Kd.N_alloc|apply Kd.N_drewN|apply Kd.N_drew));exact HO_5.out) hb);replace HO_8:=a_ (Kd.N_below (by (with_reducible repeat (first|apply Kd.N_alloc|apply Kd.N_drewN|apply Kd.N_drew));exact HO_8.out) hb);replace HL641_1:=a_ (Kd.V_below (by (with_reducible repeat (first|apply Kd.V_alloc|apply Kd.V_drewN|apply Kd.V_drew));exact HL641_1.out) hb);replace HL642_1:=a_ (Kd.V_below (by (with_reducible repeat (first|apply Kd.V_alloc|apply Kd.V_drewN|apply Kd.V_drew));exact HL642_1.out) hb);replace HR641_1:=a_ (Kd.C_below (by repeat (first|(with_reducible exact HR641_1.out)|(with_reducible refine Kd.C_alloc ?_ _)|(with_reducible refine Kd.C_drewN ?_ _)|(with_reducible refine Kd.C_drew ?_)|exact HR641_1.out)) hb);replace HR642_1:=a_ (Kd.C_below (by repeat (first|(with_reducible exact HR642_1.out)|(with_reducible refine Kd.C_alloc ?_ _)|(with_reducible refine Kd.C_drewN ?_ _)|(with_reducible refine Kd.C_drew ?_)|exact HR642_1.out)) hb);replace HB:=ms_ HB hb;(try clear hb);(try clear hb2);(try clear hk);(try clear hi);refine hK.out _ _ ⟨HS0_,HS1_,HS2_,HS3_⟩ (fun hHeld=>?_);clear hK K;refine nm_ 52 ?_;refine done_ (done_of HT_.out (by kernel_rfl)) ?_;try go_wp2
      go_roundg k4
      case measure=>
       have:=HJ2.out
       have:=HK2.out
       have:=HK3.out
       have:=HK4.out
       omega
      case rel=>exact ⟨(x9_4),(wrap64 (x40_4+1)),mq_,mq_,H',⟨by have:=HJ2.out;have:=HK2.out;have:=HK3.out;have:=HK4.out;omega⟩,⟨by (with_reducible repeat (first|apply Kd.N_alloc|apply Kd.N_drewN|apply Kd.N_drew));exact HO_5.out⟩,⟨by (with_reducible repeat (first|apply Kd.N_alloc|apply Kd.N_drewN|apply Kd.N_drew));exact HO_8.out⟩,⟨mb_ HB⟩⟩
    ·rw [if_neg c27] at H;have c27b0:=cf_ c27;clear c27;by_cases c38:0≤x9_4
     case neg=>
      rw [if_neg c38] at H;cases H
     rw [if_pos c38] at H;have c38b0:=ct_ c38;clear c38;by_cases c39:x9_4<(x5_3.length:Int)
     case neg=>
      rw [if_neg c39] at H;cases H
     rw [if_pos c39] at H;have c39b0:=ct_ c39;clear c39;by_cases c40:x8_3.length<4398046511104
     case neg=>
      rw [if_neg c40] at H;cases H
     rw [if_pos c40] at H;have LMc40:=a_ c40;clear c40;obtain ⟨y645,hy645⟩:∃y_:List (S31),y_=(x8_3++[(⟨(rd_T31 x5_3 x9_4).f0,(rd_T31 x5_3 x9_4).f1⟩:S31)]):=⟨_,rfl⟩;rw [←hy645] at H;(try rw [Option.bind_some] at H);have Ny645:=a_ hy645;clear hy645;obtain ⟨ji41,hji41⟩:∃j_:Int,(wrap64 ((x5_3.length:Int)-1))=j_:=⟨_,rfl⟩;replace H:(if 0≤(ji41) then (if (ji41)<(x5_3.length:Int) then (if (ji41)≤(x5_3.length:Int) then (spec_Agenda.l1 k4 l0 ((x5_3.set (x9_4:Int).toNat (⟨(rd_T31 x5_3 (ji41)).f0,(rd_T31 x5_3 (ji41)).f1⟩:S31)).take ((ji41):Int).toNat) y645) else (none)) else (none)) else (none))=some r:=by first|(rw [hji41] at H;exact H)|(simp only [hji41] at H ⊢;exact H)
     have hji41w:(IntKind.i64.wrap ((x5_3.length:Int)-1))=ji41:=(i64_w _).trans hji41
     by_cases c42:0≤(ji41)
     case neg=>
      rw [if_neg c42] at H;cases H
     rw [if_pos c42] at H;have c42b0:=ct_ c42;clear c42;by_cases c43:(ji41)<(x5_3.length:Int)
     case neg=>
      rw [if_neg c43] at H;cases H
     rw [if_pos c43] at H;have c43b0:=ct_ c43;clear c43;obtain ⟨y649,hy649⟩:∃y_:List (S31),y_=(x5_3.set (x9_4:Int).toNat (⟨(rd_T31 x5_3 (ji41)).f0,(rd_T31 x5_3 (ji41)).f1⟩:S31)):=⟨_,rfl⟩;rw [←hy649] at H;(try rw [Option.bind_some] at H);have Ny649:=a_ hy649;clear hy649;by_cases c45:(ji41)≤(x5_3.length:Int)
     case neg=>
      rw [if_neg c45] at H;cases H
     rw [if_pos c45] at H;have c45b0:=eq_true c45;have c45b1:=ct_ c45;clear c45;obtain ⟨y650,hy650⟩:∃y_:List (S31),y_=(y649.take ((ji41):Int).toNat):=⟨_,rfl⟩;rw [←hy650] at H;(try rw [Option.bind_some] at H);have Ny650:=a_ hy650;clear hy650;have H':=a_ H;clear H;have p644:0≤(x9_4:Int):=md_
     have q644:x9_4<(x5_3.length:Int):=md_
     obtain ⟨ad644,A644_1,c644_1,e644,hx644_0,hx644_1,hl644_1,hi644_1⟩:=at_T31 (Kd.N_reads' HO_5.out).2.2 x9_4 p644 q644;cases e644;obtain ⟨ce644,hce644,hMe644,hcc644⟩:=Kd.N_get HO_5.out z31 x9_4 p644 (by first|exact q644|exact md_|(have e_:=(Kd.N_reads' HO_5.out).1;omega));obtain ⟨ua644_1,uc644_1,rfl,ul644_1,ge644_1⟩:=k31_openF hMe644;have hv644_1:=hcc644 1 _ rfl;rw [add_field _ _ 1 (by omega)] at hv644_1;replace hv644_1:=Option.some.inj (hv644_1.symm.trans hx644_1);injection hv644_1 with hva_ hvn_ hvc_
     rw [hva_] at ge644_1;rw [hvc_] at ul644_1;have HL644_1:=a_ (show Kd.V (Kd.int .i64) 3 _ w.heap.size _ _ ((rd_T31 x5_3 x9_4).f1) from Kd.V_mk ul644_1 ge644_1);clear hva_ hvn_ hvc_ ge644_1 ul644_1;clear hcc644 hce644;have HR644_1:=a_ hi644_1;have HC644_1:=a_ hl644_1;clear hi644_1 hl644_1;replace p644:=eq_true p644;replace q644:=eq_true q644;go_wp2_with (first|((with_reducible refine gate_builtin (b:=.append) (xs:=#[.tmp 55,.tmp 60]) rfl ?_);at_builtin;refine Kd.N_append k31 (w0:=w) w.heap.size rfl (.tmp 55) (.tmp 60) 38 31 (.agg #[(.int .i64 0),(.slice none 0 0)]) 32 rfl Tryz.underlying38 info31 rfl (by decide) (by omega) u8 x8_3 (⟨(rd_T31 x5_3 x9_4).f0,(rd_T31 x5_3 x9_4).f1⟩:S31) [.int .i64 ((rd_T31 x5_3 x9_4).f0),.slice A644_1 ((rd_T31 x5_3 x9_4).f1).length c644_1] (fun k_=>(w.heap.size≤k_)∧some k_≠(.slice (some ad644) x5_3.length co26:Value).ownBlock) (fun k_=>((fun k_=>(w.heap.size≤k_)∧some k_≠(.slice (some ad644) x5_3.length co26:Value).ownBlock)) k_∧some k_≠(u8:Value).ownBlock) rfl rfl ?aP (fun _ hk=>hk) ?aF ?aO ?aB ?aS ?aL ?_;(case aP=>exact (k31_mkF _ _ (⟨(rd_T31 x5_3 x9_4).f0,(rd_T31 x5_3 x9_4).f1⟩:S31) (Kd.V_reads' (Kd.V_mono (ok':=(fun k_=>((fun k_=>(w.heap.size≤k_)∧some k_≠(.slice (some ad644) x5_3.length co26:Value).ownBlock)) k_∧some k_≠(u8:Value).ownBlock)) (HL644_1.out) (fun k_ hk=>⟨⟨hk.1.1,hk.2⟩,hk.1.2⟩))).2.1 (Kd.V_F (Kd.V_mono (ok':=(fun k_=>((fun k_=>(w.heap.size≤k_)∧some k_≠(.slice (some ad644) x5_3.length co26:Value).ownBlock)) k_∧some k_≠(u8:Value).ownBlock)) (HL644_1.out) (fun k_ hk=>⟨⟨hk.1.1,hk.2⟩,hk.1.2⟩)))));(case aB=>exact (mb_ HB));(case aF=>exact (fun k_ hk=>⟨(Nat.le_trans (below_size (mb_ HB)) hk),Kd.fresh' (Kd.N_lt (by (with_reducible repeat (first|apply Kd.N_alloc|apply Kd.N_drewN|apply Kd.N_drew));exact HO_5.out)) k_ hk⟩));(case aO=>exact (by (with_reducible repeat (first|apply Kd.N_alloc|apply Kd.N_drewN|apply Kd.N_drew));exact HO_8.out));(case aS=>exact (below_size (mb_ HB)));(case aL=>have:=LMc40.out;omega);intro v646 w46 ho hb hg hat;rw [←Ny645.out] at ho;have HO647:=a_ (ho);replace HO_5:=a_ (Kd.N_afterv (ok:=(fun k_=>(w.heap.size≤k_))) (by (with_reducible repeat (first|apply Kd.N_alloc|apply Kd.N_drewN|apply Kd.N_drew));exact HO_5.out) hg hat);replace HL644_1:=a_ (Kd.V_afterv (ok:=(fun k_=>(w.heap.size≤k_)∧some k_≠(.slice (some ad644) x5_3.length co26:Value).ownBlock)) (by (with_reducible repeat (first|apply Kd.V_alloc|apply Kd.V_drewN|apply Kd.V_drew));exact Kd.V_mono HL644_1.out (fun _ hk=>⟨⟨hk.1.1,hk.2⟩,hk.1.2⟩)) hg hat);replace HB:=a_ (hb);clear HO_8;clear ho hb hg hat;have p648:0≤((ji41):Int):=md_;have q648:(ji41)<(x5_3.length:Int):=md_;obtain ⟨ad648,A648_1,c648_1,e648,hx648_0,hx648_1,hl648_1,hi648_1⟩:=at_T31 (Kd.N_reads' HO_5.out).2.2 (ji41) p648 q648;obtain rfl:ad644=ad648:=(by injection e648);obtain ⟨ce648,hce648,hMe648,hcc648⟩:=Kd.N_get HO_5.out z31 (ji41) p648 (by first|exact q648|exact md_|(have e_:=(Kd.N_reads' HO_5.out).1;omega));obtain ⟨ua648_1,uc648_1,rfl,ul648_1,ge648_1⟩:=k31_openF hMe648;have hv648_1:=hcc648 1 _ rfl;rw [add_field _ _ 1 (by omega)] at hv648_1;replace hv648_1:=Option.some.inj (hv648_1.symm.trans hx648_1);injection hv648_1 with hva_ hvn_ hvc_;rw [hva_] at ge648_1;rw [hvc_] at ul648_1;have HL648_1:=a_ (show Kd.V (Kd.int .i64) 3 _ w.heap.size _ _ ((rd_T31 x5_3 (ji41)).f1) from Kd.V_mk ul648_1 ge648_1);clear hva_ hvn_ hvc_ ge648_1 ul648_1;clear hcc648 hce648;have HR648_1:=a_ hi648_1;have HC648_1:=a_ hl648_1;clear hi648_1 hl648_1;replace p648:=eq_true p648;replace q648:=eq_true q648;have p44:0≤(x9_4:Int):=md_;have q44:(x9_4:Int)<((x5_3.length:Int):Int):=md_;obtain ⟨go44,co44,eo44,gb44,gl44,cl44,HG44⟩:=Kd.N_form HO_5.out (by omega);(first|cases eo44|(injection eo44 with ea_ en_ ec_;(first|subst ea_|(injection ea_ with ea_;subst ea_));subst ec_;clear en_));have GB44:=a_ gb44;have GG44:=a_ HG44;clear gb44 gl44 HG44;(first|simp only [add_plain] at hx644_0|skip);(first|simp only [add_plain] at hx644_1|skip);(first|simp only [add_plain] at hx648_0|skip);(first|simp only [add_plain] at hx648_1|skip);obtain ⟨ce44,hcl44,hM44,hcc44,hfr44⟩:=Kd.N_elem HO_5.out z31 (x9_4:Int) p44 q44;obtain ⟨ua44_1,uc44_1,rfl,ul44_1,ge44_1⟩:=k31_openF hM44;have hx44_0:w46.cell? ⟨go44,(x9_4:Int).toNat*2,none⟩=some (.int .i64 ((rd_T31 x5_3 x9_4).f0)):=hcc44 0 _ rfl;have hx44_1:w46.cell? ⟨go44,(x9_4:Int).toNat*2+1,none⟩=some (.slice ua44_1 ((rd_T31 x5_3 x9_4).f1).length uc44_1):=hcc44 1 _ rfl;have hf44_0:w46.frozen? ⟨go44,(x9_4:Int).toNat*2,none⟩=false:=hfr44 0;have hf44_1:w46.frozen? ⟨go44,(x9_4:Int).toNat*2+1,none⟩=false:=hfr44 1;clear hcl44 hcc44 hfr44;(try clear hM44);replace p44:=eq_true p44;replace q44:=eq_true q44;have HX47:=a_ (show Kd.N k31 31 w46 w.heap.size (fun k_=>(w.heap.size≤k_)∧some k_≠(v646:Value).ownBlock) (.slice (some ⟨go44,0,none⟩) x5_3.length co26) x5_3 from (by (with_reducible repeat (first|apply Kd.N_alloc|apply Kd.N_drewN|apply Kd.N_drew));exact HO_5.out));obtain ⟨ce47,hcl47,hM47,hcc47,hfr47⟩:=Kd.N_elem HX47.out z31 (x9_4:Int) (md_) (by have h_:(x9_4:Int)<((x5_3.length:Int):Int):=md_;first|exact h_|(have e_:=(Kd.N_reads' HO_5.out).1;omega)|simpa using h_);obtain ⟨ua47_1,uc47_1,rfl,ul47_1,ge47_1⟩:=k31_openF hM47;have HP47:=Kd.N_seg HX47.out (x9_4:Int) (md_) (by have h_:(x9_4:Int)<((x5_3.length:Int):Int):=md_;first|exact h_|(have e_:=(Kd.N_reads' HO_5.out).1;omega)|simpa using h_) (seg:=[.int .i64 ((rd_T31 x5_3 (ji41)).f0),.slice A648_1 ((rd_T31 x5_3 (ji41)).f1).length c648_1]) (j:=0) hcl47 hcc47 (show 2≤2 from by decide) (x':=(⟨(rd_T31 x5_3 (ji41)).f0,(rd_T31 x5_3 (ji41)).f1⟩:S31)) (k31_mkF _ _ (⟨(rd_T31 x5_3 (ji41)).f0,(rd_T31 x5_3 (ji41)).f1⟩:S31) (Kd.V_reads' (Kd.V_mono (ok':=(fun k_=>((fun k_=>(w.heap.size≤k_)∧some k_≠(v646:Value).ownBlock)) k_∧k_≠go44)) (HL648_1.out) (fun k_ hk=>⟨⟨hk.1.1,hk.1.2⟩,fun e_=>(hk.2) (by rw [e_];rfl)⟩))).2.1 (Kd.V_F (Kd.V_mono (ok':=(fun k_=>((fun k_=>(w.heap.size≤k_)∧some k_≠(v646:Value).ownBlock)) k_∧k_≠go44)) (HL648_1.out) (fun k_ hk=>⟨⟨hk.1.1,hk.1.2⟩,fun e_=>(hk.2) (by rw [e_];rfl)⟩)))) (fun _ hk=>hk);have hx47_0:=hcc47 0 _ rfl;(try simp only [show (k31).sz=2 from rfl,Nat.mul_one,Nat.add_zero] at hx47_0);have hf47_0:=hfr47 0;(try simp only [show (k31).sz=2 from rfl,Nat.mul_one,Nat.add_zero] at hf47_0);have hx47_1:=hcc47 1 _ rfl;(try simp only [show (k31).sz=2 from rfl,Nat.mul_one,Nat.add_zero] at hx47_1);have hf47_1:=hfr47 1;(try simp only [show (k31).sz=2 from rfl,Nat.mul_one,Nat.add_zero] at hf47_1);clear hcl47 hcc47 hfr47;(try clear hM47))|((with_reducible refine gate_store (t:=31) (p:=70) rfl ?_);refine store_event (t:=31) (p:=70) (v:=?vo_w48) (w1:=((w46.setCell ⟨go44,(x9_4:Int).toNat*2,none⟩ (.int .i64 ((rd_T31 x5_3 (ji41)).f0))).setCell ⟨go44,(x9_4:Int).toNat*2+1,none⟩ (.slice A648_1 ((rd_T31 x5_3 (ji41)).f1).length c648_1))) ?hg ?ho ?hn ?hr ?_;(case ho=>rfl);(case hg=>rfl);(case hn=>rfl);(case hr=>first|(go_simp;done)|(go_simp;rfl));intro wx hw;have hg:w46.grownBy wx (some go44):=(by rw [hw];exact HP47.2);have hp_:Kd.N k31 31 wx w.heap.size (fun k_=>(w.heap.size≤k_)∧some k_≠(v646:Value).ownBlock) (.slice (some ⟨go44,0,none⟩) x5_3.length co26) y649:=(by rw [hw,Ny649.out];exact HP47.1);clear HP47;replace HO_5:=a_ (hp_);replace HL644_1:=a_ (Kd.V_afterv (v:=(.slice (some ⟨go44,0,none⟩) x5_3.length co26)) (v1:=(.slice (some ⟨go44,0,none⟩) x5_3.length co26)) (ok:=(fun k_=>(w.heap.size≤k_)∧some k_≠(v646:Value).ownBlock)) (by (with_reducible repeat (first|apply Kd.V_alloc|apply Kd.V_drewN|apply Kd.V_drew));exact Kd.V_mono HL644_1.out (fun _ hk=>⟨⟨hk.1.1,hk.2⟩,hk.1.2⟩)) hg (.inl rfl));replace HO647:=a_ (Kd.N_afterv (v:=(.slice (some ⟨go44,0,none⟩) x5_3.length co26)) (v1:=(.slice (some ⟨go44,0,none⟩) x5_3.length co26)) (ok:=(fun k_=>(w.heap.size≤k_))) (by (with_reducible repeat (first|apply Kd.N_alloc|apply Kd.N_drewN|apply Kd.N_drew));exact HO647.out) hg (.inl rfl));replace HL648_1:=a_ (Kd.V_afterv (v:=(.slice (some ⟨go44,0,none⟩) x5_3.length co26)) (v1:=(.slice (some ⟨go44,0,none⟩) x5_3.length co26)) (ok:=(fun k_=>(w.heap.size≤k_)∧some k_≠(v646:Value).ownBlock)) (by (with_reducible repeat (first|apply Kd.V_alloc|apply Kd.V_drewN|apply Kd.V_drew));exact HL648_1.out) hg (.inl rfl));replace HB:=a_ ((by rw [hw];exact below_set (below_set (HB.out) GB44.out) GB44.out:Below w.heap.size w wx));clear hg hw hp_;have q49:((ji41):Int)≤((x5_3.length:Int):Int):=md_;obtain ⟨i049,hi049,_,hsz49,_⟩:=info_parts info31;have hcut49:=cut_to (P:=Tryz.prog) 38 31 .i64 Tryz.underlying38 hi049 (some ⟨go44,0,none⟩) x5_3.length co26 (ji41) (md_) q49 (Kd.N_reads' HO_5.out).2.1;have hr49:=Kd.N_take (m:=((ji41):Int).toNat) HO_5.out (by first|omega|(have e_:=(Kd.N_reads' HO_5.out).1;omega));have hy49:y650.length=((ji41):Int).toNat:=(by rw [Ny650.out,List.length_take];first|omega|(have e_:=(Kd.N_reads' HO_5.out).1;omega));rw [←Ny650.out] at hr49;rw [←hy49] at hr49 hcut49;clear hy49 hi049 hsz49 HO_5;have HO652:=a_ hr49;clear hr49;replace q49:=eq_true q49))
     go_roundg k4
     case measure=>
      have:=HJ2.out
      have:=HK2.out
      have:=HK3.out
      have:=HK4.out
      omega
     case rel=>exact ⟨(y650),(y645),H',⟨by have:=HJ2.out;have:=HK2.out;have:=HK3.out;have:=HK4.out;omega⟩,⟨by (with_reducible repeat (first|apply Kd.N_alloc|apply Kd.N_drewN|apply Kd.N_drew));exact HO652.out⟩,⟨by (with_reducible repeat (first|apply Kd.N_alloc|apply Kd.N_drewN|apply Kd.N_drew));exact HO647.out⟩,⟨mb_ HB⟩⟩
   ·rw [if_neg c25] at H;have c25b0:=cf_ c25;have c25b1:decide (0<x5_3.length)=false:=decide_eq_false (by omega)
    clear c25;obtain rfl:=oi_ H;obtain ⟨Ao50,co50,eo50⟩:=Kd.N_slice HO_5.out;subst eo50;go_wp2;go_ret;exact ⟨_,me_,by (with_reducible repeat (first|apply Kd.N_alloc|apply Kd.N_drewN|apply Kd.N_drew));exact Kd.N_mono HO_8.out (fun _ hk=>hk.1),mb_ HB⟩
end Go.Proofs.YtejjlkbbnhpbdaaGreat.P
namespace Go.Proofs.YtejjlkbbnhpbdaaGreat.P
open Go.Proofs.YtejjlkbbnhpbdaaGreatX
open Go.RowKit Go.Proofs.YtejjlkbbnhpbdaaGreatW.PrintWords Go.Proofs.YtejjlkbbnhpbdaaGreatW.PrintLast Go.Proofs.YtejjlkbbnhpbdaaGreatW.PrintMore
attribute [local go_sem] max2_int min2_int max_two min_two max_three min_three max_four min_four
set_option linter.unusedVariables false
set_option linter.unusedSimpArgs false
def laws_toInstS.l0:Nat→List (S25)→List (S31)→Int→Option ((List (S31)))
 | 0,_,_,_=>none
 | k+1,x0,x3,x4=>if x4<(x0.length:Int) then (if 0≤x4 then ((laws_toInst.f k ((rd_T25 x0 x4).f0) ((rd_T25 x0 x4).f1)).bind fun bt657=>(if x4<(x3.length:Int) then (laws_toInstS.l0 k x0 (x3.set (x4:Int).toNat (⟨bt657.1,bt657.2⟩:S31)) (wrap64 (x4+1))) else (none))) else (none)) else (some x3)
def laws_toInstS.f (k:Nat) (l0:List (S25)):Option ((List (S31))):=if 0≤(l0.length:Int) then (if ((l0.length:Int):Int).toNat≤8796093022208 then (laws_toInstS.l0 k l0 (List.replicate ((l0.length:Int):Int).toNat z31) 0) else (none)) else (none)
theorem laws_toInstS.mono_l:∀k,(∀y0 y1 y2,LeO (laws_toInstS.l0 k y0 y1 y2) (laws_toInstS.l0 (k+1) y0 y1 y2))
 | 0=>fun _ _ _ r h=>by simp [laws_toInstS.l0] at h
 | k+1=>by
  have ih0:=laws_toInstS.mono_l k
  ·intro y0 y1 y2;unfold laws_toInstS.l0
   repeat' with_reducible first|apply ih0|apply laws_toInst.mono|apply LeO.refl|apply LeO.none|refine LeO.ite ?_ ?_|refine LeO.bind ?_ (fun _=>?_)
theorem laws_toInstS.mono:∀a0 k,LeO (laws_toInstS.f k a0) (laws_toInstS.f (k+1) a0):=by
 intro a0 k;have ih0:=laws_toInstS.mono_l k;unfold laws_toInstS.f
 repeat' with_reducible first|apply ih0|apply laws_toInst.mono|apply LeO.refl|apply LeO.none|refine LeO.ite ?_ ?_|refine LeO.bind ?_ (fun _=>?_)
set_option maxHeartbeats 8000000 in
set_option maxRecDepth 100000 in
theorem laws_toInstS.calls (k:Nat) (A0:Option Addr) (c0:Nat) (l0:List (S25)) (r:List (S31)) (w:World) (hr0:Kd.C k25 w A0 l0.length l0) (hc0:l0.length≤c0) (h:laws_toInstS.f k l0=some r):
  Calls Tryz.prog 15 #[.slice A0 l0.length c0] w fun e w'=>∃v0_:Value,e=.returned (v0_)∧Kd.S k31 31 w' w.heap.size (fun _=>True) v0_ r∧Below w.heap.size w w':=by
 have hu25:=Tryz.underlying25;have hu31:=Tryz.underlying31;have HR0:=a_ hr0;have HC0:=a_ hc0;clear hr0 hc0;have HB:=a_ (Below.refl w.heap.size w);have H:=h;unfold laws_toInstS.f at H
 clear h;by_cases c2:0≤(l0.length:Int)
 case neg=>
  rw [if_neg c2] at H;cases H
 rw [if_pos c2] at H;have c2b0:=eq_true c2;have c2b1:=ct_ c2;clear c2;by_cases c3:((l0.length:Int):Int).toNat≤8796093022208
 case neg=>
  rw [if_neg c3] at H;cases H
 rw [if_pos c3] at H;have c3b0:=eq_true c3;have c3b1:=ct_ c3;clear c3;obtain ⟨y653,hy653⟩:∃y_:List (S31),y_=(List.replicate ((l0.length:Int):Int).toNat z31):=⟨_,rfl⟩;rw [←hy653] at H;(try rw [Option.bind_some] at H);have Ny653:=a_ hy653;clear hy653;have H':=a_ H;clear H;go_enter Tryz.func15,Tryz.ntmps15;go_wp2_with (first|((with_reducible refine gate_dst (N:=7) rfl ?_);refine Kd.S_make k31 _ 31 rfl (N:=7) rfl 38 _ _ rfl (l0.length:Int) rfl rfl Tryz.underlying38 (.agg #[(.int .i64 0),(.slice none 0 0)]) 32 info31 rfl (by decide) (by omega) z31 (ok:=fun _=>True) (okp:=fun _=>True) (k31_mkM _ _ _ z31 (Kd.R_nil _ _ _ _ _)) (fun _ hk=>hk) trivial (md_) (Nat.le_trans (Nat.mul_le_mul_right _ (md_:(l0.length:Int).toNat≤8796093022208)) (by omega)) (Below.refl _ _) (Nat.le_refl _) ?_;intro v654 wx ho5 hb hg_ hnew_;clear hg_ hnew_;(first|rw [←Ny653.out] at ho5|(simp only [Int.reduceToNat] at ho5;rw [←Ny653.out] at ho5));have HO655:=a_ (Kd.S_lower ho5 (below_size (mb_ HB)));replace HB:=ms_ HB hb;clear hb ho5));go_loopg [4] k (fun kq v4 w'=>∃(x3_1:List (S31)) (x4_1:Int),v4=.int .i64 x4_1∧Aside0 (laws_toInstS.l0 kq l0 x3_1 x4_1=some r)∧Aside0 (kq≤k)∧Aside0 (Kd.S k31 31 w' w.heap.size (fun _=>True) v654 x3_1)∧Aside0 (Below w.heap.size w w'))
 case atStart=>exact ⟨(y653),(0),mq_,H',⟨Nat.le_refl _⟩,⟨by (with_reducible repeat (first|apply Kd.S_alloc|apply Kd.S_drewN|apply Kd.S_drew));exact HO655.out⟩,⟨mb_ HB⟩⟩
 clear H';(try clear c2b0);(try clear c2b1);(try clear c3b0);(try clear c3b1);obtain ⟨x3_1,x4_1,rfl,HA,HK1,HO_3,HB⟩:=hrel;obtain _|k1:=gk
 ·exact absurd HA.out (by simp [laws_toInstS.l0])
 have H:=HA.out;clear HA;simp only [laws_toInstS.l0] at H;by_cases c6:x4_1<(l0.length:Int)
 ·rw [if_pos c6] at H;have c6b0:=ct_ c6;clear c6;by_cases c7:0≤x4_1
  case neg=>
   rw [if_neg c7] at H;cases H
  rw [if_pos c7] at H;have c7b0:=ct_ c7;clear c7;obtain ⟨⟨t657,t658⟩,A8,H⟩:=ob_ H;by_cases c9:x4_1<(x3_1.length:Int)
  case neg=>
   rw [if_neg c9] at H;cases H
  rw [if_pos c9] at H;have c9b0:=ct_ c9;clear c9;obtain ⟨y661,hy661⟩:∃y_:List (S31),y_=(x3_1.set (x4_1:Int).toNat (⟨t657,t658⟩:S31)):=⟨_,rfl⟩;rw [←hy661] at H;(try rw [Option.bind_some] at H);have Ny661:=a_ hy661;clear hy661;have H':=a_ H;clear H;have p656:0≤(x4_1:Int):=md_
  have q656:x4_1<(l0.length:Int):=md_
  obtain ⟨ad656,A656_1,c656_1,e656,hx656_0,hx656_1,hl656_1,hi656_1⟩:=at_T25 HR0.out x4_1 p656 q656;cases e656;replace hx656_0:=mx_ HB hx656_0;replace hx656_1:=mx_ HB hx656_1;have HR656_1:=a_ hi656_1;have HC656_1:=a_ hl656_1;clear hi656_1 hl656_1;replace p656:=eq_true p656;replace q656:=eq_true q656;go_wp2_with (first|((with_reducible refine gate_callee (f:=9) rfl ?_);refine goesL_ (some 20) rfl rfl Tryz.func9 (by kernel_rfl) rfl #[.agg #[.int .i64 ((rd_T25 l0 x4_1).f0),.slice A656_1 ((rd_T25 l0 x4_1).f1).length c656_1]] rfl mw_ ?_;(with_reducible refine (laws_toInst.calls k1 ((rd_T25 l0 x4_1).f0) _ _ ((rd_T25 l0 x4_1).f1) t657 t658 _ ?side1 HC656_1.out A8.out).mono ?_);(case side1=>exact mt_ HR656_1 HB);rintro e w11 ⟨v659,rfl,ho0,hb⟩;refine ⟨_,rfl,?_⟩;have HO660:=a_ (Kd.R_lower ho0 (below_size (mb_ HB)));replace HO_3:=a_ (Kd.S_elder' (by (with_reducible repeat (first|apply Kd.S_alloc|apply Kd.S_drewN|apply Kd.S_drew));exact HO_3.out) (Kd.R_base ho0) hb);replace HB:=ms_ HB hb;(try clear hb ho0);have p10:0≤(x4_1:Int):=md_;have q10:(x4_1:Int)<((x3_1.length:Int):Int):=md_;obtain ⟨go10,co10,eo10,gb10,gl10,cl10,HG10⟩:=Kd.S_form HO_3.out (by omega);(first|cases eo10|(injection eo10 with ea_ en_ ec_;(first|subst ea_|(injection ea_ with ea_;subst ea_));subst ec_;clear en_));have GB10:=a_ gb10;have GG10:=a_ HG10;clear gb10 gl10 HG10;obtain ⟨_,ce10,hcl10,hM10,hcc10,hfr10,_,_⟩:=Kd.S_elem HO_3.out z31 (x4_1:Int) p10 q10;obtain ⟨ve10_1,rfl,ge10_1⟩:=k31_openM hM10;have hx10_0:w11.cell? ⟨go10,(x4_1:Int).toNat*2,none⟩=some (.int .i64 ((rd_T31 x3_1 x4_1).f0)):=hcc10 0 _ rfl;have hx10_1:w11.cell? ⟨go10,(x4_1:Int).toNat*2+1,none⟩=some (ve10_1):=hcc10 1 _ rfl;have hf10_0:w11.frozen? ⟨go10,(x4_1:Int).toNat*2,none⟩=false:=hfr10 0;have hf10_1:w11.frozen? ⟨go10,(x4_1:Int).toNat*2+1,none⟩=false:=hfr10 1;clear hcl10 hcc10 hfr10;(try clear hM10);replace p10:=eq_true p10;replace q10:=eq_true q10;have n_:=a_ (Kd.S_mono (ok':=(fun k_=>some k_≠(v659:Value).ownBlock)) HO_3.out (fun k_ hk=>hk.2));clear HO_3;have HO_3:=n_;clear n_;have HX12:=a_ (show Kd.S k31 31 w11 w.heap.size (fun k_=>((fun _=>True)) k_∧¬((fun k_=>some k_=(v659:Value).ownBlock)) k_) (.slice (some ⟨go10,0,none⟩) x3_1.length co10) x3_1 from (by (with_reducible repeat (first|apply Kd.S_alloc|apply Kd.S_drewN|apply Kd.S_drew));exact Kd.S_mono HO_3.out (fun k_ hk=>⟨trivial,fun e_=>hk e_⟩)));obtain ⟨oki12,ce12,hcl12,hM12,hcc12,hfr12,hoki12,hH12⟩:=Kd.S_elem HX12.out z31 (x4_1:Int) (md_) (by have h_:(x4_1:Int)<((x3_1.length:Int):Int):=md_;first|exact h_|(have e_:=(Kd.S_reads' HO_3.out).1;omega)|simpa using h_);obtain ⟨ve12_1,rfl,ge12_1⟩:=k31_openM hM12;have HP12:=Kd.S_seg hH12 (md_) (by have h_:(x4_1:Int)<((x3_1.length:Int):Int):=md_;first|exact h_|(have e_:=(Kd.S_reads' HO_3.out).1;omega)|simpa using h_) (seg:=[.int .i64 t657,v659]) (j:=0) (show 2≤2 from by decide) (x':=(⟨t657,t658⟩:S31)) (k31_mkM _ _ _ (⟨t657,t658⟩:S31) (Kd.R_mono (Kd.R_tight rfl (Kd.R_mono (ok':=fun k_=>((fun _=>True)) k_∧k_≠go10) (Kd.R_apart' (HO660.out) (Kd.S_typed HO_3.out) (by decide)) (fun k_ hk=>⟨trivial,fun e_=>(hk.2) (by rw [e_];rfl)⟩))) (fun _ h_=>Or.inr (h_)))) (fun _ hk=>hk) (fun k_ hk_=>((Kd.R_mono (ok':=fun k_=>((fun _=>True)) k_∧k_≠go10) (Kd.R_apart' (HO660.out) (Kd.S_typed HO_3.out) (by decide)) (fun k_ hk=>⟨trivial,fun e_=>(hk.2) (by rw [e_];rfl)⟩))).1 k_ hk_.symm);have hx12_0:=hcc12 0 _ rfl;(try simp only [show (k31).sz=2 from rfl,Nat.mul_one,Nat.add_zero] at hx12_0);have hf12_0:=hfr12 0;(try simp only [show (k31).sz=2 from rfl,Nat.mul_one,Nat.add_zero] at hf12_0);have hx12_1:=hcc12 1 _ rfl;(try simp only [show (k31).sz=2 from rfl,Nat.mul_one,Nat.add_zero] at hx12_1);have hf12_1:=hfr12 1;(try simp only [show (k31).sz=2 from rfl,Nat.mul_one,Nat.add_zero] at hf12_1);clear hcl12 hcc12 hfr12 hoki12 hH12;(try clear hM12))|((with_reducible refine gate_store (t:=31) (p:=21) rfl ?_);refine store_event (t:=31) (p:=21) (v:=?vo_w13) (w1:=((w11.setCell ⟨go10,(x4_1:Int).toNat*2,none⟩ (.int .i64 t657)).setCell ⟨go10,(x4_1:Int).toNat*2+1,none⟩ (v659))) ?hg ?ho ?hn ?hr ?_;(case ho=>rfl);(case hg=>rfl);(case hn=>rfl);(case hr=>first|(go_simp;done)|(go_simp;rfl)|((obtain ⟨As0_,cs0_,es0_⟩:=(by first|exact Kd.R_slice (Kd.S_R (Aside0.out (by with_reducible assumption:Aside0 (Kd.S _ _ _ _ _ v659 _))))|exact Kd.R_slice (Aside0.out (by with_reducible assumption:Aside0 (Kd.R _ _ _ _ _ v659 _)))|exact Kd.R_slice (Aside0.out ‹Aside0 (Kd.R _ _ _ _ _ v659 _)›):∃A_ c_,v659=Value.slice A_ _ c_));subst es0_;go_simp;done)|((obtain ⟨As0_,cs0_,es0_⟩:=(by first|exact Kd.R_slice (Kd.S_R (Aside0.out (by with_reducible assumption:Aside0 (Kd.S _ _ _ _ _ v659 _))))|exact Kd.R_slice (Aside0.out (by with_reducible assumption:Aside0 (Kd.R _ _ _ _ _ v659 _)))|exact Kd.R_slice (Aside0.out ‹Aside0 (Kd.R _ _ _ _ _ v659 _)›):∃A_ c_,v659=Value.slice A_ _ c_));subst es0_;go_simp;rfl));intro wx hw;have hg:w11.grownBy wx (some go10):=(by rw [hw];exact HP12.2);have hp_:Kd.S k31 31 wx w.heap.size (fun _=>True) (.slice (some ⟨go10,0,none⟩) x3_1.length co10) y661:=(by rw [hw,Ny661.out];exact HP12.1);clear HP12;replace HO_3:=a_ (hp_);replace HB:=a_ ((by rw [hw];exact below_set (below_set (HB.out) GB10.out) GB10.out:Below w.heap.size w wx));clear HO660;clear hg hw hp_))
  go_roundg k1
  case measure=>
   have:=HK1.out
   omega
  case rel=>exact ⟨(y661),(wrap64 (x4_1+1)),mq_,H',⟨by have:=HK1.out;omega⟩,⟨by (with_reducible repeat (first|apply Kd.S_alloc|apply Kd.S_drewN|apply Kd.S_drew));exact HO_3.out⟩,⟨mb_ HB⟩⟩
 ·rw [if_neg c6] at H;have c6b0:=cf_ c6;clear c6;obtain rfl:=oi_ H;go_wp2;go_ret;exact ⟨_,me_,by (with_reducible repeat (first|apply Kd.S_alloc|apply Kd.S_drewN|apply Kd.S_drew));exact HO_3.out,mb_ HB⟩
def IsS68 (w0 W:World) (g:Nat) (f0:List (S58)) (f1:List (S31)):Prop:=∃A0 c0,∃A1 c1,W.heap[g]?=some (.cells #[.slice A0 f0.length c0,.slice A1 f1.length c1] 68 (0,0))∧w0.heap.size≤g∧Kd.C k58 w0 A0 f0.length f0∧Kd.C k31 w0 A1 f1.length f1
theorem IsS68.grown {w0 W:World} {g:Nat} {f0:List (S58)} {f1:List (S31)} {W1:World} {row:Option Nat} (h:IsS68 w0 W g f0 f1) (hw:W.grownBy W1 row) (hne:some g≠row):IsS68 w0 W1 g f0 f1:=by
 obtain ⟨A0,c0,A1,c1,hb,hg,hr0,hr1⟩:=h;exact ⟨A0,c0,A1,c1,blk_grown hb hw hne,hg,hr0,hr1⟩
theorem IsS68.below {w0 W:World} {g:Nat} {f0:List (S58)} {f1:List (S31)} {W1:World} (h:IsS68 w0 W g f0 f1) (hw:Below W.heap.size W W1):IsS68 w0 W1 g f0 f1:=h.grown (grown_of_below hw none) (by simp)
theorem IsS68.alloc {w0 W:World} {g:Nat} {f0:List (S58)} {f1:List (S31)} (h:IsS68 w0 W g f0 f1) (o:Obj):IsS68 w0 (W.alloc o) g f0 f1:=h.below (below_alloc (Below.refl _ _) o)
theorem IsS68.drewN {w0 W:World} {g:Nat} {f0:List (S58)} {f1:List (S31)} (h:IsS68 w0 W g f0 f1) (m:Nat):IsS68 w0 (W.drewN m) g f0 f1:=h
theorem IsS68.drew {w0 W:World} {g:Nat} {f0:List (S58)} {f1:List (S31)} (h:IsS68 w0 W g f0 f1):IsS68 w0 W.drew g f0 f1:=h
theorem IsS68.at_ {w0 W:World} {g:Nat} {f0:List (S58)} {f1:List (S31)} {w':World} {m:Nat} (hq:W.drewN m=w') (h:IsS68 w0 W g f0 f1):IsS68 w0 w' g f0 f1:=by subst hq;exact IsS68.drewN h m
theorem IsS68.lt {w0 W:World} {g:Nat} {f0:List (S58)} {f1:List (S31)} (h:IsS68 w0 W g f0 f1):g<W.heap.size:=by
 obtain ⟨A0,c0,A1,c1,hb,hg,hr0,hr1⟩:=h;exact blk_lt hb
def impl_agenda_Len.f (s0_0:List (S58)) (s0_1:List (S31)):Option (Int):=some (s0_1.length:Int)
def laws_eqInstS.l0:Nat→List (S31)→List (S31)→Int→Option (Bool)
 | 0,_,_,_=>none
 | k+1,x0,x1,x5=>if x5<(x0.length:Int) then (if 0≤x5 then (if x5<(x1.length:Int) then ((laws_eqInst.f k ((rd_T31 x0 x5).f0) ((rd_T31 x0 x5).f1) ((rd_T31 x1 x5).f0) ((rd_T31 x1 x5).f1)).bind fun t664=>(if t664=true then (laws_eqInstS.l0 k x0 x1 (wrap64 (x5+1))) else (some false))) else (none)) else (none)) else (some true)
def laws_eqInstS.f (k:Nat) (l0:List (S31)) (l1:List (S31)):Option (Bool):=if (l0.length:Int)=(l1.length:Int) then (laws_eqInstS.l0 k l0 l1 0) else (some false)
theorem laws_eqInstS.mono_l:∀k,(∀y0 y1 y2,LeO (laws_eqInstS.l0 k y0 y1 y2) (laws_eqInstS.l0 (k+1) y0 y1 y2))
 | 0=>fun _ _ _ r h=>by simp [laws_eqInstS.l0] at h
 | k+1=>by
  have ih0:=laws_eqInstS.mono_l k
  ·intro y0 y1 y2;unfold laws_eqInstS.l0
   repeat' with_reducible first|apply ih0|apply laws_eqInst.mono|apply LeO.refl|apply LeO.none|refine LeO.ite ?_ ?_|refine LeO.bind ?_ (fun _=>?_)
theorem laws_eqInstS.mono:∀a0 a1 k,LeO (laws_eqInstS.f k a0 a1) (laws_eqInstS.f (k+1) a0 a1):=by
 intro a0 a1 k;have ih0:=laws_eqInstS.mono_l k;unfold laws_eqInstS.f
 repeat' with_reducible first|apply ih0|apply laws_eqInst.mono|apply LeO.refl|apply LeO.none|refine LeO.ite ?_ ?_|refine LeO.bind ?_ (fun _=>?_)
def laws_eqInstS.T6:Bool×List (List Nat×List Nat):=(true,[([],[]),([],[]),([0,1],[0,1]),([2],[2]),([],[]),([],[]),([4,5],[4,5]),([6],[6]),([3,7],[3,7]),([8],[8])])
def laws_eqInstS.B6:List Nat:=[0,0,3,7,0,0,48,112,255,511]
theorem laws_eqInstS.tab6:rtab .any (opsOf Tryz.f17 6)=laws_eqInstS.T6:=by kernel_rfl
theorem laws_eqInstS.bits6:waitsOk laws_eqInstS.T6.2 laws_eqInstS.B6=true:=by kernel_rfl
abbrev bf60_0:Array Bool:=#[f_,f_,f_,f_,f_,f_,f_,f_,f_,f_]
abbrev bf60_1:Array Bool:=#[t_,f_,f_,f_,f_,f_,f_,f_,f_,f_]
abbrev bf60_2:Array Bool:=#[t_,t_,f_,f_,f_,f_,f_,f_,f_,f_]
abbrev bf60_3:Array Bool:=#[t_,t_,t_,f_,f_,f_,f_,f_,f_,f_]
abbrev bf60_4:Array Bool:=#[t_,t_,t_,f_,t_,f_,f_,f_,f_,f_]
abbrev bf60_5:Array Bool:=#[t_,t_,t_,f_,t_,t_,f_,f_,f_,f_]
abbrev bf60_6:Array Bool:=#[t_,t_,t_,f_,t_,t_,t_,f_,f_,f_]
abbrev bf60_7:Array Bool:=#[t_,t_,t_,t_,t_,t_,t_,f_,f_,f_]
abbrev bf60_8:Array Bool:=#[t_,t_,t_,t_,t_,t_,t_,t_,f_,f_]
abbrev bf60_9:Array Bool:=#[t_,t_,t_,t_,t_,t_,t_,t_,t_,f_]
abbrev bf60_10:Array Bool:=#[t_,t_,t_,t_,t_,t_,t_,t_,t_,t_]
set_option maxHeartbeats 8000000 in
set_option maxRecDepth 100000 in
theorem laws_eqInstS.calls (k:Nat) (A0:Option Addr) (c0:Nat) (l0:List (S31)) (A1:Option Addr) (c1:Nat) (l1:List (S31)) (r:Bool) (w:World) (hr0:Kd.C k31 w A0 l0.length l0) (hc0:l0.length≤c0) (hr1:Kd.C k31 w A1 l1.length l1) (hc1:l1.length≤c1) (h:laws_eqInstS.f k l0 l1=some r) (hT_:r=true:=by first|rfl|assumption):
  Calls Tryz.prog 17 #[.slice A0 l0.length c0,.slice A1 l1.length c1] w fun e w'=>e=.returned (.bool r)∧Below w.heap.size w w':=by
 subst hT_;have hu31:=Tryz.underlying31;have HR0:=a_ hr0;have HC0:=a_ hc0;clear hr0 hc0;have HR1:=a_ hr1;have HC1:=a_ hc1;clear hr1 hc1;have HB:=a_ (Below.refl w.heap.size w);have H:(if (l0.length:Int)=(l1.length:Int) then (laws_eqInstS.l0 k l0 l1 0) else (some false))=some true:=h
 clear h;by_cases c3:(l0.length:Int)=(l1.length:Int)
 ·rw [if_pos c3] at H;obtain ⟨c3b0,c3b1⟩:=bq_ c3;have c3b2:(l0.length==l1.length)=true:=by first|simpa using c3|(simp at c3 ⊢;omega)
  clear c3;have H':=a_ H;clear H;go_enter Tryz.func17,Tryz.ntmps17;go_wp2;go_loopg [5] k (fun kq v5 w'=>∃(x5_1:Int),v5=.int .i64 x5_1∧Aside0 (laws_eqInstS.l0 kq l0 l1 x5_1=some true)∧Aside0 (kq≤k)∧Aside0 (Below w.heap.size w w'))
  case atStart=>exact ⟨(0),mq_,H',⟨Nat.le_refl _⟩,⟨mb_ HB⟩⟩
  clear H';(try clear c3b0);(try clear c3b1);(try clear c3b2);obtain ⟨x5_1,rfl,HA,HK1,HB⟩:=hrel;obtain _|k1:=gk
  ·exact absurd HA.out (by simp [laws_eqInstS.l0])
  have H:=HA.out;clear HA;simp only [laws_eqInstS.l0] at H;by_cases c4:x5_1<(l0.length:Int)
  ·rw [if_pos c4] at H;have c4b0:=ct_ c4;clear c4;by_cases c5:0≤x5_1
   case neg=>
    rw [if_neg c5] at H;cases H
   rw [if_pos c5] at H;have c5b0:=ct_ c5;clear c5;by_cases c6:x5_1<(l1.length:Int)
   case neg=>
    rw [if_neg c6] at H;cases H
   rw [if_pos c6] at H;have c6b0:=ct_ c6;clear c6;obtain ⟨t664,A7,H⟩:=ob_ H;by_cases c8:t664=true
   ·subst c8;rw [if_pos rfl] at H;have H':=a_ H;clear H;try go_wp2
    replace HB:=a_ (below_drew1 HB.out);have p662:0≤(x5_1:Int):=md_
    have q662:x5_1<(l0.length:Int):=md_
    obtain ⟨ad662,A662_1,c662_1,e662,hx662_0,hx662_1,hl662_1,hi662_1⟩:=at_T31 HR0.out x5_1 p662 q662;have hw662_1:=hx662_1;have hw662_0:=hx662_0;cases e662;replace hx662_0:=mx_ HB hx662_0;replace hx662_1:=mx_ HB hx662_1;have HR662_1:=a_ hi662_1;have HC662_1:=a_ hl662_1;clear hi662_1 hl662_1;replace p662:=eq_true p662;replace q662:=eq_true q662;have p663:0≤(x5_1:Int):=md_
    have q663:x5_1<(l1.length:Int):=md_
    obtain ⟨ad663,A663_1,c663_1,e663,hx663_0,hx663_1,hl663_1,hi663_1⟩:=at_T31 HR1.out x5_1 p663 q663;have hw663_1:=hx663_1;have hw663_0:=hx663_0;cases e663;replace hx663_0:=mx_ HB hx663_0;replace hx663_1:=mx_ HB hx663_1;have HR663_1:=a_ hi663_1;have HC663_1:=a_ hl663_1;clear hi663_1 hl663_1;replace p663:=eq_true p663;replace q663:=eq_true q663;refine start_ (n:=10) (S:=fun w'=>w'.cell? (ad662.add ((x5_1).toNat*2))=some (.int .i64 ((rd_T31 l0 x5_1).f0))∧w'.cell? ⟨(ad662.add ((x5_1).toNat*2)).block,(ad662.add ((x5_1).toNat*2)).off+1,none⟩=some (.slice A662_1 ((rd_T31 l0 x5_1).f1).length c662_1)∧w'.cell? (ad663.add ((x5_1).toNat*2))=some (.int .i64 ((rd_T31 l1 x5_1).f0))∧w'.cell? ⟨(ad663.add ((x5_1).toNat*2)).block,(ad663.add ((x5_1).toNat*2)).off+1,none⟩=some (.slice A663_1 ((rd_T31 l1 x5_1).f1).length c663_1)) (ds:=[]) bf60_0 (by kernel_rfl) rfl rfl ⟨(mx_ HB hw662_0),(mx_ HB hw662_1),(mx_ HB hw663_0),(mx_ HB hw663_1)⟩ (fun hHeld=>?_);refine with_tabW laws_eqInstS.tab6 laws_eqInstS.bits6 (fun HT_ HW_=>?_);generalize wr.drew=w9 at HB HR662_1 HR663_1 hx662_0 hx662_1 hx663_0 hx663_1 hHeld ⊢;refine pu_ 0 17 bf60_1 (any_of HT_.out (by kernel_rfl)) ?_;refine pu_ 1 18 bf60_2 (any_of HT_.out (by kernel_rfl)) ?_;refine pu_ 2 19 bf60_3 (any_of HT_.out (by kernel_rfl)) ?_;refine pu_ 4 21 bf60_4 (any_of HT_.out (by kernel_rfl)) ?_;refine pu_ 5 22 bf60_5 (any_of HT_.out (by kernel_rfl)) ?_;refine pu_ 6 23 bf60_6 (any_of HT_.out (by kernel_rfl)) ?_;refine tk_ 3 20 bf60_7 (take_ofW HT_.out HW_.out (by kernel_rfl)) hHeld ?_;refine tk_ 7 24 bf60_8 (take_ofW HT_.out HW_.out (by kernel_rfl)) hHeld ?_;refine one_ (i:=8) (N:=some 25) bf60_9 rfl rfl (one_of HT_.out (by kernel_rfl)) (by decide) (fun K hK=>?_);refine goes_ Tryz.func12 (by kernel_rfl) rfl #[.agg #[.int .i64 ((rd_T31 l0 x5_1).f0),.slice A662_1 ((rd_T31 l0 x5_1).f1).length c662_1],.agg #[.int .i64 ((rd_T31 l1 x5_1).f0),.slice A663_1 ((rd_T31 l1 x5_1).f1).length c663_1]] (by rfl) rfl rfl mw_ ?_;with_reducible refine (laws_eqInst.calls k1 ((rd_T31 l0 x5_1).f0) _ _ ((rd_T31 l0 x5_1).f1) ((rd_T31 l1 x5_1).f0) _ _ ((rd_T31 l1 x5_1).f1) true _ ?side1 ?side2 ?side3 ?side4 A7.out).mono ?_
    (case side1=>exact mt_ HR662_1 HB)
    (case side2=>exact HC662_1.out)
    (case side3=>exact mt_ HR663_1 HB)
    (case side4=>exact HC663_1.out)
    rintro e w10 ⟨rfl,hb⟩;refine ⟨_,rfl,?_⟩;replace HB:=ms_ HB hb;(try clear hb);(try clear hb2);(try clear hk);(try clear hi);refine hK.out _ _ ⟨(mx_ HB hw662_0),(mx_ HB hw662_1),(mx_ HB hw663_0),(mx_ HB hw663_1)⟩ (fun hHeld=>?_);clear hK K;refine nm_ 25 ?_;refine pu_ 9 26 bf60_10 (any_of HT_.out (by kernel_rfl)) ?_;refine done_ (done_of HT_.out (by kernel_rfl)) ?_;try go_wp2
    go_roundg k1
    case measure=>
     have:=HK1.out
     omega
    case rel=>exact ⟨(wrap64 (x5_1+1)),mq_,H',⟨by have:=HK1.out;omega⟩,⟨mb_ HB⟩⟩
   ·replace c8:=Bool.eq_false_iff.mpr c8;subst c8;rw [if_neg (show ¬(false=true) by decide)] at H;exact absurd (Option.some.inj H) (by decide)
  ·rw [if_neg c4] at H;have c4b0:=cf_ c4;clear c4;clear H;go_wp2;go_ret;exact ⟨me_,mb_ HB⟩
 ·rw [if_neg c3] at H;obtain ⟨c3b0,c3b1⟩:=bn_ c3;have c3b2:(l0.length==l1.length)=false:=by first|simpa using c3|(simp at c3 ⊢;omega)
  exact absurd (Option.some.inj H) (by decide)
def laws_markText.l0:Nat→Int→ByteArray→Option (ByteArray)
 | 0,_,_=>none
 | k+1,x0,x3=>if x0>0 then ((some (([(wrap64 (48+(Int.tmod x0 10))) % 256]:List Int):List Int)).bind fun y665=>(if (strOfNums y665).size+x3.size≤9223372036854775807 then (laws_markText.l0 k (wrap64 (Int.tdiv x0 10)) ((strOfNums y665)++x3)) else (none))) else (if 1+x3.size≤9223372036854775807 then (some ((⟨#[109]⟩:ByteArray)++x3)) else (none))
def laws_markText.f (k:Nat) (a0:Int):Option (ByteArray):=if a0≤0 then (some (⟨#[109,48]⟩:ByteArray)) else (laws_markText.l0 k a0 (⟨#[]⟩:ByteArray))
theorem laws_markText.mono_l:∀k,(∀y0 y1,LeO (laws_markText.l0 k y0 y1) (laws_markText.l0 (k+1) y0 y1))
 | 0=>fun _ _ r h=>by simp [laws_markText.l0] at h
 | k+1=>by
  have ih0:=laws_markText.mono_l k
  ·intro y0 y1;unfold laws_markText.l0
   repeat' with_reducible first|apply ih0|apply LeO.refl|apply LeO.none|refine LeO.ite ?_ ?_|refine LeO.bind ?_ (fun _=>?_)
theorem laws_markText.mono:∀a0 k,LeO (laws_markText.f k a0) (laws_markText.f (k+1) a0):=by
 intro a0 k;have ih0:=laws_markText.mono_l k;unfold laws_markText.f
 repeat' with_reducible first|apply ih0|apply LeO.refl|apply LeO.none|refine LeO.ite ?_ ?_|refine LeO.bind ?_ (fun _=>?_)
set_option maxHeartbeats 8000000 in
set_option maxRecDepth 100000 in
theorem laws_markText.calls (k:Nat) (a0:Int) (r:ByteArray) (w:World) (h:laws_markText.f k a0=some r):
  Calls Tryz.prog 40 #[.int .i64 a0] w fun e w'=>e=.returned (.string r)∧Below w.heap.size w w':=by
 have HB:=a_ (Below.refl w.heap.size w);have H:=h;unfold laws_markText.f at H
 clear h;by_cases c2:a0≤0
 ·rw [if_pos c2] at H;have c2b0:=ct_ c2;clear c2;obtain rfl:=oi_ H;go_enter Tryz.func40,Tryz.ntmps40;go_wp2;go_ret;exact ⟨me_,mb_ HB⟩
 ·rw [if_neg c2] at H;have c2b0:=cf_ c2;clear c2;have H':=a_ H;clear H;go_enter Tryz.func40,Tryz.ntmps40;go_wp2;go_loopg [0,3] k (fun kq v0 v3 w'=>∃(x0_1:Int) (x3_1:ByteArray),v0=.int .i64 x0_1∧v3=.string x3_1∧Aside0 (laws_markText.l0 kq x0_1 x3_1=some r)∧Aside0 (kq≤k)∧Aside0 (Below w.heap.size w w'))
  case atStart=>exact ⟨(a0),((⟨#[]⟩:ByteArray)),mq_,mq_,H',⟨Nat.le_refl _⟩,⟨mb_ HB⟩⟩
  clear H';(try clear c2b0);obtain ⟨x0_1,x3_1,rfl,rfl,HA,HK1,HB⟩:=hrel;obtain _|k1:=gk
  ·exact absurd HA.out (by simp [laws_markText.l0])
  have H:=HA.out;clear HA;simp only [laws_markText.l0] at H;by_cases c3:x0_1>0
  ·rw [if_pos c3] at H;have c3b0:=ct_ c3;clear c3;obtain ⟨y665,hy665⟩:∃y_:List Int,y_=(([(wrap64 (48+(Int.tmod x0_1 10))) % 256]:List Int)):=⟨_,rfl⟩;rw [←hy665] at H;(try rw [Option.bind_some] at H);have Ny665:=a_ hy665;clear hy665;by_cases c4:(strOfNums y665).size+x3_1.size≤9223372036854775807
   case neg=>
    rw [if_neg c4] at H;cases H
   rw [if_pos c4] at H;have c4b0:=eq_true c4;have c4b1:=ct_ c4;try have c4b2:(9223372036854775807<(strOfNums y665).size+x3_1.size)=False:=eq_false (Nat.not_lt.2 c4)
   have H':=a_ H;clear H;go_wp2_with (first|((with_reducible refine gate_dst (N:=12) rfl ?_);refine Kd.R_lit (Kd.int .u8) _ 5 ?hg (N:=12) ?hd (xs:=([(wrap64 (48+(Int.tmod x0_1 10))) % 256]:List Int)) (inner:=[.int .u8 ((wrap64 (48+(Int.tmod x0_1 10))) % 256)]) (ok:=fun _=>True) (okp:=fun _=>True) ?hr ?hp (fun _ hk=>hk) trivial (Below.refl _ _) (Nat.le_refl _) (by simp) ?_;(case hd=>rfl);(case hg=>rfl);(case hr=>first|(go_simp;done)|(go_simp;rfl));(case hp=>exact (Reps.one (show Kd.M (Kd.int .u8) _ _ _ ((wrap64 (48+(Int.tmod x0_1 10))) % 256) [.int .u8 ((wrap64 (48+(Int.tmod x0_1 10))) % 256)] from rfl) (Reps.none _ _)));intro v666 wx ho6 hb hg_ hnew_;clear hg_ hnew_;(first|rw [←Ny665.out] at ho6|(simp only [Int.reduceToNat] at ho6;rw [←Ny665.out] at ho6));have HO667:=a_ (Kd.R_lower ho6 (below_size (mb_ HB)));replace HB:=ms_ HB hb;clear hb ho6;have hcv7:=own_string (P:=Tryz.prog) Tryz.underlying98 Tryz.underlying5 Tryz.underlying9 (Kd.own_of_R HO667.out)));go_roundg k1
   case measure=>
    have:=HK1.out
    omega
   case rel=>exact ⟨(wrap64 (Int.tdiv x0_1 10)),((strOfNums y665)++x3_1),mq_,mq_,H',⟨by have:=HK1.out;omega⟩,⟨mb_ HB⟩⟩
  ·rw [if_neg c3] at H;have c3b0:=cf_ c3;clear c3;by_cases c8:1+x3_1.size≤9223372036854775807
   case neg=>
    rw [if_neg c8] at H;cases H
   rw [if_pos c8] at H;have c8b0:=eq_true c8;have c8b1:=ct_ c8;try have c8b2:(9223372036854775807<1+x3_1.size)=False:=eq_false (Nat.not_lt.2 c8)
   obtain rfl:=oi_ H;go_wp2;go_ret;exact ⟨me_,mb_ HB⟩
end Go.Proofs.YtejjlkbbnhpbdaaGreat.P
namespace Go.Proofs.YtejjlkbbnhpbdaaGreat.P
open Go.Proofs.YtejjlkbbnhpbdaaGreatX
open Go.RowKit Go.Proofs.YtejjlkbbnhpbdaaGreatW.PrintWords Go.Proofs.YtejjlkbbnhpbdaaGreatW.PrintLast Go.Proofs.YtejjlkbbnhpbdaaGreatW.PrintMore
attribute [local go_sem] max2_int min2_int max_two min_two max_three min_three max_four min_four
set_option linter.unusedVariables false
set_option linter.unusedSimpArgs false
def laws_markTermS.l0:Nat→List (S134)→Int→Int→Option (Int×(List (S134)))
 | 0,_,_,_=>none
 | k+1,x0,x1,x5=>if x5<(x0.length:Int) then (if 0≤x5 then ((some (x0.set (x5:Int).toNat (⟨x1,(rd_T134 x0 x5).f1,(rd_T134 x0 x5).f2,(⟨(rd_T134 x0 x5).f3.f0,(rd_T134 x0 x5).f3.f1,(rd_T134 x0 x5).f3.f2⟩:S104)⟩:S134):List (S134))).bind fun y668=>((some (y668.set (x5:Int).toNat (⟨(rd_T134 y668 x5).f0,wrap64 (x1+1),(rd_T134 y668 x5).f2,(⟨(rd_T134 y668 x5).f3.f0,(rd_T134 y668 x5).f3.f1,(rd_T134 y668 x5).f3.f2⟩:S104)⟩:S134):List (S134))).bind fun y669=>((laws_markText.f k (wrap64 ((wrap64 (x1+1))+1))).bind fun t670=>((some (y669.set (x5:Int).toNat (⟨(rd_T134 y669 x5).f0,(rd_T134 y669 x5).f1,t670,(⟨(rd_T134 y669 x5).f3.f0,(rd_T134 y669 x5).f3.f1,(rd_T134 y669 x5).f3.f2⟩:S104)⟩:S134):List (S134))).bind fun y671=>((some (y671.set (x5:Int).toNat (⟨(rd_T134 y671 x5).f0,(rd_T134 y671 x5).f1,(rd_T134 y671 x5).f2,(⟨wrap64 ((wrap64 ((wrap64 (x1+1))+1))+1),(rd_T134 y671 x5).f3.f1,(rd_T134 y671 x5).f3.f2⟩:S104)⟩:S134):List (S134))).bind fun y672=>((some (y672.set (x5:Int).toNat (⟨(rd_T134 y672 x5).f0,(rd_T134 y672 x5).f1,(rd_T134 y672 x5).f2,(⟨(rd_T134 y672 x5).f3.f0,wrap64 ((wrap64 ((wrap64 ((wrap64 (x1+1))+1))+1))+1),(rd_T134 y672 x5).f3.f2⟩:S104)⟩:S134):List (S134))).bind fun y673=>((laws_markText.f k (wrap64 ((wrap64 ((wrap64 ((wrap64 ((wrap64 (x1+1))+1))+1))+1))+1))).bind fun t674=>(laws_markTermS.l0 k (y673.set (x5:Int).toNat (⟨(rd_T134 y673 x5).f0,(rd_T134 y673 x5).f1,(rd_T134 y673 x5).f2,(⟨(rd_T134 y673 x5).f3.f0,(rd_T134 y673 x5).f3.f1,t674⟩:S104)⟩:S134)) (wrap64 ((wrap64 ((wrap64 ((wrap64 ((wrap64 ((wrap64 (x1+1))+1))+1))+1))+1))+1)) (wrap64 (x5+1)))))))))) else (none)) else (some (x1,x0))
def laws_markTermS.f (k:Nat) (l0:List (S134)) (a1:Int):Option (Int×(List (S134))):=laws_markTermS.l0 k l0 a1 0
theorem laws_markTermS.mono_l:∀k,(∀y0 y1 y2,LeO (laws_markTermS.l0 k y0 y1 y2) (laws_markTermS.l0 (k+1) y0 y1 y2))
 | 0=>fun _ _ _ r h=>by simp [laws_markTermS.l0] at h
 | k+1=>by
  have ih0:=laws_markTermS.mono_l k
  ·intro y0 y1 y2;unfold laws_markTermS.l0
   repeat' with_reducible first|apply ih0|apply laws_markText.mono|apply LeO.refl|apply LeO.none|refine LeO.ite ?_ ?_|refine LeO.bind ?_ (fun _=>?_)
theorem laws_markTermS.mono:∀a0 a1 k,LeO (laws_markTermS.f k a0 a1) (laws_markTermS.f (k+1) a0 a1):=by
 intro a0 a1 k;have ih0:=laws_markTermS.mono_l k;unfold laws_markTermS.f
 repeat' with_reducible first|apply ih0|apply laws_markText.mono|apply LeO.refl|apply LeO.none|refine LeO.ite ?_ ?_|refine LeO.bind ?_ (fun _=>?_)
def laws_markExprS.l0:Nat→List (S106)→Int→Int→Option (Int×(List (S106)))
 | 0,_,_,_=>none
 | k+1,x0,x1,x5=>if x5<(x0.length:Int) then (if 0≤x5 then ((some (x0.set (x5:Int).toNat (⟨x1,(rd_T106 x0 x5).f1,(rd_T106 x0 x5).f2,(⟨(rd_T106 x0 x5).f3.f0,(rd_T106 x0 x5).f3.f1,(rd_T106 x0 x5).f3.f2⟩:S104),(rd_T106 x0 x5).f4,(rd_T106 x0 x5).f5⟩:S106):List (S106))).bind fun y680=>((some (y680.set (x5:Int).toNat (⟨(rd_T106 y680 x5).f0,(wrap64 (x1+1)) % 256,(rd_T106 y680 x5).f2,(⟨(rd_T106 y680 x5).f3.f0,(rd_T106 y680 x5).f3.f1,(rd_T106 y680 x5).f3.f2⟩:S104),(rd_T106 y680 x5).f4,(rd_T106 y680 x5).f5⟩:S106):List (S106))).bind fun y681=>((laws_markText.f k (wrap64 ((wrap64 (x1+1))+1))).bind fun t682=>((some (y681.set (x5:Int).toNat (⟨(rd_T106 y681 x5).f0,(rd_T106 y681 x5).f1,t682,(⟨(rd_T106 y681 x5).f3.f0,(rd_T106 y681 x5).f3.f1,(rd_T106 y681 x5).f3.f2⟩:S104),(rd_T106 y681 x5).f4,(rd_T106 y681 x5).f5⟩:S106):List (S106))).bind fun y683=>((some (y683.set (x5:Int).toNat (⟨(rd_T106 y683 x5).f0,(rd_T106 y683 x5).f1,(rd_T106 y683 x5).f2,(⟨wrap64 ((wrap64 ((wrap64 (x1+1))+1))+1),(rd_T106 y683 x5).f3.f1,(rd_T106 y683 x5).f3.f2⟩:S104),(rd_T106 y683 x5).f4,(rd_T106 y683 x5).f5⟩:S106):List (S106))).bind fun y684=>((some (y684.set (x5:Int).toNat (⟨(rd_T106 y684 x5).f0,(rd_T106 y684 x5).f1,(rd_T106 y684 x5).f2,(⟨(rd_T106 y684 x5).f3.f0,wrap64 ((wrap64 ((wrap64 ((wrap64 (x1+1))+1))+1))+1),(rd_T106 y684 x5).f3.f2⟩:S104),(rd_T106 y684 x5).f4,(rd_T106 y684 x5).f5⟩:S106):List (S106))).bind fun y685=>((laws_markText.f k (wrap64 ((wrap64 ((wrap64 ((wrap64 ((wrap64 (x1+1))+1))+1))+1))+1))).bind fun t686=>((some (y685.set (x5:Int).toNat (⟨(rd_T106 y685 x5).f0,(rd_T106 y685 x5).f1,(rd_T106 y685 x5).f2,(⟨(rd_T106 y685 x5).f3.f0,(rd_T106 y685 x5).f3.f1,t686⟩:S104),(rd_T106 y685 x5).f4,(rd_T106 y685 x5).f5⟩:S106):List (S106))).bind fun y687=>((some (y687.set (x5:Int).toNat (⟨(rd_T106 y687 x5).f0,(rd_T106 y687 x5).f1,(rd_T106 y687 x5).f2,(⟨(rd_T106 y687 x5).f3.f0,(rd_T106 y687 x5).f3.f1,(rd_T106 y687 x5).f3.f2⟩:S104),wrap64 ((wrap64 ((wrap64 ((wrap64 ((wrap64 ((wrap64 (x1+1))+1))+1))+1))+1))+1),(rd_T106 y687 x5).f5⟩:S106):List (S106))).bind fun y688=>(laws_markExprS.l0 k (y688.set (x5:Int).toNat (⟨(rd_T106 y688 x5).f0,(rd_T106 y688 x5).f1,(rd_T106 y688 x5).f2,(⟨(rd_T106 y688 x5).f3.f0,(rd_T106 y688 x5).f3.f1,(rd_T106 y688 x5).f3.f2⟩:S104),(rd_T106 y688 x5).f4,wrap64 ((wrap64 ((wrap64 ((wrap64 ((wrap64 ((wrap64 ((wrap64 (x1+1))+1))+1))+1))+1))+1))+1)⟩:S106)) (wrap64 ((wrap64 ((wrap64 ((wrap64 ((wrap64 ((wrap64 ((wrap64 ((wrap64 (x1+1))+1))+1))+1))+1))+1))+1))+1)) (wrap64 (x5+1)))))))))))) else (none)) else (some (x1,x0))
def laws_markExprS.f (k:Nat) (l0:List (S106)) (a1:Int):Option (Int×(List (S106))):=laws_markExprS.l0 k l0 a1 0
theorem laws_markExprS.mono_l:∀k,(∀y0 y1 y2,LeO (laws_markExprS.l0 k y0 y1 y2) (laws_markExprS.l0 (k+1) y0 y1 y2))
 | 0=>fun _ _ _ r h=>by simp [laws_markExprS.l0] at h
 | k+1=>by
  have ih0:=laws_markExprS.mono_l k
  ·intro y0 y1 y2;unfold laws_markExprS.l0
   repeat' with_reducible first|apply ih0|apply laws_markText.mono|apply LeO.refl|apply LeO.none|refine LeO.ite ?_ ?_|refine LeO.bind ?_ (fun _=>?_)
theorem laws_markExprS.mono:∀a0 a1 k,LeO (laws_markExprS.f k a0 a1) (laws_markExprS.f (k+1) a0 a1):=by
 intro a0 a1 k;have ih0:=laws_markExprS.mono_l k;unfold laws_markExprS.f
 repeat' with_reducible first|apply ih0|apply laws_markText.mono|apply LeO.refl|apply LeO.none|refine LeO.ite ?_ ?_|refine LeO.bind ?_ (fun _=>?_)
def laws_markIntS.l0:Nat→List Int→Int→Int→Option (Int×List Int)
 | 0,_,_,_=>none
 | k+1,x0,x1,x5=>if x5<(x0.length:Int) then (if 0≤x5 then (laws_markIntS.l0 k (x0.set (x5:Int).toNat x1) (wrap64 (x1+1)) (wrap64 (x5+1))) else (none)) else (some (x1,x0))
def laws_markIntS.f (k:Nat) (l0:List Int) (a1:Int):Option (Int×List Int):=laws_markIntS.l0 k l0 a1 0
theorem laws_markIntS.mono_l:∀k,(∀y0 y1 y2,LeO (laws_markIntS.l0 k y0 y1 y2) (laws_markIntS.l0 (k+1) y0 y1 y2))
 | 0=>fun _ _ _ r h=>by simp [laws_markIntS.l0] at h
 | k+1=>by
  have ih0:=laws_markIntS.mono_l k
  ·intro y0 y1 y2;unfold laws_markIntS.l0
   repeat' with_reducible first|apply ih0|apply LeO.refl|apply LeO.none|refine LeO.ite ?_ ?_|refine LeO.bind ?_ (fun _=>?_)
theorem laws_markIntS.mono:∀a0 a1 k,LeO (laws_markIntS.f k a0 a1) (laws_markIntS.f (k+1) a0 a1):=by
 intro a0 a1 k;have ih0:=laws_markIntS.mono_l k;unfold laws_markIntS.f
 repeat' with_reducible first|apply ih0|apply LeO.refl|apply LeO.none|refine LeO.ite ?_ ?_|refine LeO.bind ?_ (fun _=>?_)
set_option maxHeartbeats 8000000 in
set_option maxRecDepth 100000 in
theorem laws_markIntS.calls (k:Nat) (P0_:Nat→Prop) (u9000_:Value) (l0:List Int) (a1:Int) (r1:Int) (r2:List Int) (w0 w:World) (hB:Below w0.heap.size w0 w) (ho0:Kd.R (Kd.int .i64) 3 w w0.heap.size P0_ u9000_ l0) (h:laws_markIntS.f k l0 a1=some (r1,r2)):
  Calls Tryz.prog 44 #[u9000_,.int .i64 a1] w fun e w'=>e=.returned (.int .i64 r1)∧Kd.R (Kd.int .i64) 3 w' w0.heap.size (fun k_=>(P0_ k_∨w.heap.size≤k_)) u9000_ r2∧Below w0.heap.size w0 w'∧Kept w w' (fun k_=>P0_ k_):=by
 have HO0:=a_ (show Kd.R (Kd.int .i64) 3 w w0.heap.size (fun k_=>(P0_ k_∨w.heap.size≤k_)) u9000_ l0 from Kd.R_mono ho0 (fun k_ hk=>(.inl hk)));have HK:=a_ (Kept.refl w (fun k_=>P0_ k_));have HW0:=a_ hB.size;have HB:=a_ hB;clear hB;have H:(laws_markIntS.l0 k l0 a1 0)=some (r1,r2):=h
 clear h;have H':=a_ H;clear H;go_enter Tryz.func44,Tryz.ntmps44;go_wp2;go_loopg [1,5] k (fun kq v1 v5 w'=>∃(x0_1:List Int) (x1_1:Int) (x5_1:Int),v1=.int .i64 x1_1∧v5=.int .i64 x5_1∧Aside0 (laws_markIntS.l0 kq x0_1 x1_1 x5_1=some (r1,r2))∧Aside0 (kq≤k)∧Aside0 (Kd.R (Kd.int .i64) 3 w' w0.heap.size (fun k_=>(P0_ k_∨w.heap.size≤k_)) u9000_ x0_1)∧Aside0 (Kept w w' (fun k_=>P0_ k_))∧Aside0 (Below w0.heap.size w0 w'))
 case atStart=>exact ⟨(l0),(a1),(0),mq_,mq_,H',⟨Nat.le_refl _⟩,⟨mo_ HO0.out⟩,⟨by repeat (first|(with_reducible first|exact HK.out|apply Kept.alloc|apply Kept.drewN|apply Kept.drew)|exact HK.out)⟩,⟨mb_ HB⟩⟩
 clear H';obtain ⟨x0_1,x1_1,x5_1,rfl,rfl,HA,HK1,HO_0,HK,HB⟩:=hrel;obtain _|k1:=gk
 ·exact absurd HA.out (by simp [laws_markIntS.l0])
 have H:=HA.out;clear HA;simp only [laws_markIntS.l0] at H;by_cases c3:x5_1<(x0_1.length:Int)
 ·rw [if_pos c3] at H;have c3b0:=ct_ c3;clear c3;by_cases c4:0≤x5_1
  case neg=>
   rw [if_neg c4] at H;cases H
  rw [if_pos c4] at H;have c4b0:=ct_ c4;clear c4;obtain ⟨y690,hy690⟩:∃y_:List Int,y_=(x0_1.set (x5_1:Int).toNat x1_1):=⟨_,rfl⟩;rw [←hy690] at H;(try rw [Option.bind_some] at H);have Ny690:=a_ hy690;clear hy690;have H':=a_ H;clear H;obtain ⟨Ao6,co6,eo6⟩:=Kd.R_slice HO_0.out;subst eo6;have p5:0≤(x5_1:Int):=md_
  have q5:(x5_1:Int)<((x0_1.length:Int):Int):=md_
  obtain ⟨go5,co5,eo5,gb5,gl5,cl5,HG5⟩:=Kd.R_form HO_0.out (by omega);(first|cases eo5|(injection eo5 with ea_ en_ ec_;(first|subst ea_|(injection ea_ with ea_;subst ea_));subst ec_;clear en_));have GB5:=a_ gb5;have GG5:=a_ HG5;clear gb5 gl5 HG5;have HMgo5:=a_ (show (P0_ go5∨w.heap.size≤go5) from (HO_0.out.1 _ rfl));obtain ⟨hx5_0,hf5_0⟩:=Kd.R_celln 0 HO_0.out (x5_1:Int) p5 q5;replace p5:=eq_true p5;replace q5:=eq_true q5;have HP7:=Kd.R_putg HO_0.out (x5_1:Int) x1_1;go_wp2_with (first|((with_reducible refine gate_store (t:=3) (p:=15) rfl ?_);refine store_event (t:=3) (p:=15) (v:=?vo_w8) (w1:=(wr.setCell ⟨go5,(x5_1:Int).toNat,none⟩ (.int .i64 x1_1))) ?hg ?ho ?hn ?hr ?_;(case ho=>rfl);(case hg=>rfl);(case hn=>rfl);(case hr=>first|(go_simp;done)|(go_simp;rfl));intro wx hw;have hg:wr.grownBy wx (some go5):=(by rw [hw];exact HP7.2);have hp_:Kd.R (Kd.int .i64) 3 wx w0.heap.size (fun k_=>(P0_ k_∨w.heap.size≤k_)) (.slice (some ⟨go5,0,none⟩) x0_1.length co6) y690:=(by rw [hw,Ny690.out];exact HP7.1);clear HP7;have n0_:=a_ (hp_);have n1_:=a_ ((by rw [hw];exact below_set (HB.out) GB5.out:Below w0.heap.size w0 wx));have n2_:=a_ (Kept.of_grown (S:=(fun k_=>P0_ k_)) hg (by repeat (first|(with_reducible first|exact HK.out|apply Kept.alloc|apply Kept.drewN|apply Kept.drew)|exact HK.out)) (fun k_ e_=>(HO_0.out.1 k_ e_)));clear HO_0;clear HB;clear HK;have HO_0:=n0_;have HB:=n1_;have HK:=n2_;clear n0_ n1_ n2_;clear hg hw hp_));go_roundg k1
  case measure=>
   have:=HK1.out
   omega
  case rel=>exact ⟨(y690),(wrap64 (x1_1+1)),(wrap64 (x5_1+1)),mq_,mq_,H',⟨by have:=HK1.out;omega⟩,⟨mo_ HO_0.out⟩,⟨by repeat (first|(with_reducible first|exact HK.out|apply Kept.alloc|apply Kept.drewN|apply Kept.drew)|exact HK.out)⟩,⟨mb_ HB⟩⟩
 ·rw [if_neg c3] at H;have c3b0:=cf_ c3;clear c3;simp only [Option.some.injEq,Prod.mk.injEq] at H;obtain ⟨rfl,rfl⟩:=H;obtain ⟨Ao9,co9,eo9⟩:=Kd.R_slice HO_0.out;subst eo9;go_wp2;go_ret;exact ⟨me_,mo_ HO_0.out,mb_ HB,by repeat (first|(with_reducible first|exact HK.out|apply Kept.alloc|apply Kept.drewN|apply Kept.drew)|exact HK.out)⟩
end Go.Proofs.YtejjlkbbnhpbdaaGreat.P
namespace Go.Proofs.YtejjlkbbnhpbdaaGreatX
open Go.RowKit Go.Proofs.YtejjlkbbnhpbdaaGreatW.PrintWords
set_option linter.unusedVariables false
set_option linter.unusedSimpArgs false
theorem Ev.ifT {α : Type} {c:Prop} [Decidable c] {f g:Nat→Option α} {r : α} (h:c) (k:Ev f r):Ev (fun n=>if c then f n else g n) r:=by
 obtain ⟨K,k⟩:=k;exact ⟨K,fun n hn=>(if_pos h).trans (k n hn)⟩
theorem Ev.ifF {α : Type} {c:Prop} [Decidable c] {f g:Nat→Option α} {r : α} (h:¬c) (k:Ev g r):Ev (fun n=>if c then f n else g n) r:=by
 obtain ⟨K,k⟩:=k;exact ⟨K,fun n hn=>(if_neg h).trans (k n hn)⟩
theorem Ev.ite {α : Type} {c:Prop} [Decidable c] {f g:Nat→Option α} {r : α} (h1:c→Ev f r) (h2:¬c→Ev g r):Ev (fun n=>if c then f n else g n) r:=by
 by_cases h:c
 ·exact Ev.ifT h (h1 h)
 ·exact Ev.ifF h (h2 h)
theorem Ev.bindE {α β : Type} {g:Option α} {f:Nat→α→Option β} {a : α} {r : β} (h:g=some a) (k:Ev (fun n=>f n a) r):Ev (fun n=>g.bind (f n)) r:=by
 subst h;exact k
theorem Ev.as {α : Type} {g:Nat→Option α} {r r' : α} (h:Ev g r) (e:r=r'):Ev g r':=e▸h
theorem rd_mid {α : Type} (a:List α) (x : α) (b:List α) (z : α):(a++x::b).getD a.length z=x:=by
 rw [List.getD_eq_getElem?_getD,List.getElem?_append_right (Nat.le_refl _),Nat.sub_self];rfl
theorem set_mid {α : Type} (a:List α) (x y : α) (b:List α):(a++x::b).set a.length y=a++y::b:=by
 rw [List.set_append_right _ _ (Nat.le_refl _),Nat.sub_self];rfl
theorem len_mid {α : Type} (a:List α) (x : α) (b:List α):(a++x::b).length=a.length+(b.length+1):=by
 rw [List.length_append,List.length_cons]
def mkL {α : Type} (mk:Int→α→α) (cnt : α→Nat):Int→List α→List α
 | _,[]=>[]
 | a,x::xs=>mk a x::mkL mk cnt (a+cnt x) xs
theorem mkL_length {α : Type} (mk:Int→α→α) (cnt : α→Nat):∀(a:Int) (xs:List α),(mkL mk cnt a xs).length=xs.length
 | _,[]=>rfl
 | a,x::xs=>by rw [mkL,List.length_cons,List.length_cons,mkL_length mk cnt _ xs]
def cntL {α : Type} (cnt : α→Nat) (xs:List α):Nat:=(xs.map cnt).sum
theorem cntL_cons {α : Type} (cnt : α→Nat) (x : α) (xs:List α):cntL cnt (x::xs)=cnt x+cntL cnt xs:=by simp [cntL]
theorem cntL_const {α : Type} (c:Nat) (xs:List α):cntL (fun _=>c) xs=c * xs.length:=by
 induction xs with
 | nil=>rfl
 | cons x xs ih=>rw [cntL_cons,ih,List.length_cons,Nat.mul_succ];omega
theorem mark_loop {α : Type} (mk:Int→α→α) (cnt : α→Nat) (L:Nat→List α→Int→Int→Option (Int×List α))
  (hstep:∀(d:List α) (x : α) (t:List α) (a:Int) (r:Int×List α),(d++x::t).length≤9223372036854775807→0≤a→a+cnt x≤4611686018427387904→Ev (fun k=>L k (d++mk a x::t) (a+cnt x) ((d.length+1:Nat):Int)) r→Ev (fun k=>L k (d++x::t) a (d.length:Int)) r)
  (hend:∀(d:List α) (a:Int),Ev (fun k=>L k d a (d.length:Int)) (a,d)):
  ∀(xs:List α) (a:Int),xs.length≤9223372036854775807→0≤a→a+cntL cnt xs≤4611686018427387904→Ev (fun k=>L k xs a 0) (a+cntL cnt xs,mkL mk cnt a xs):=by
 have key:∀(t d:List α) (a:Int),(d++t).length≤9223372036854775807→0≤a→a+cntL cnt t≤4611686018427387904→Ev (fun k=>L k (d++t) a (d.length:Int)) (a+cntL cnt t,d++mkL mk cnt a t):=by
  intro t;induction t with
  | nil=>
   intro d a _ _ _;have:=hend d a
   simpa [mkL,cntL] using this
  | cons x t ih=>
   intro d a hl h0 h1;rw [cntL_cons] at h1 ⊢;refine hstep d x t a _ hl h0 (by omega) ?_;have:=ih (d++[mk a x]) (a+cnt x) (by simp at hl ⊢;omega) (by omega) (by omega)
   simp only [List.append_assoc,List.singleton_append,List.length_append,List.length_singleton] at this;rw [mkL];refine Ev.as this ?_;rw [show a+((cnt x+cntL cnt t:Nat):Int)=a+(cnt x:Int)+(cntL cnt t:Int) by omega]
 intro xs a hl h0 h1;have:=key xs [] a (by simpa using hl) h0 h1
 simpa using this
theorem held_loop {α : Type} (mk:Int→α→α) (cnt : α→Nat) (L:Nat→List α→Int→Int→Option Int)
  (hstep:∀(d:List α) (x : α) (t:List α) (a r:Int),(d++mk a x::t).length≤9223372036854775807→0≤a→a+cnt x≤4611686018427387904→Ev (fun k=>L k (d++mk a x::t) (a+cnt x) ((d.length+1:Nat):Int)) r→Ev (fun k=>L k (d++mk a x::t) a (d.length:Int)) r)
  (hend:∀(d:List α) (a:Int),Ev (fun k=>L k d a (d.length:Int)) a):
  ∀(xs:List α) (a:Int),xs.length≤9223372036854775807→0≤a→a+cntL cnt xs≤4611686018427387904→Ev (fun k=>L k (mkL mk cnt a xs) a 0) (a+cntL cnt xs):=by
 have key:∀(t d:List α) (a:Int),(d++t).length≤9223372036854775807→0≤a→a+cntL cnt t≤4611686018427387904→Ev (fun k=>L k (d++mkL mk cnt a t) a (d.length:Int)) (a+cntL cnt t):=by
  intro t;induction t with
  | nil=>
   intro d a _ _ _;have:=hend d a
   simpa [mkL,cntL] using this
  | cons x t ih=>
   intro d a hl h0 h1;rw [cntL_cons] at h1 ⊢;rw [mkL];refine hstep d x _ a _ (by simp [mkL_length] at hl ⊢;omega) h0 (by omega) ?_;have:=ih (d++[mk a x]) (a+cnt x) (by simp at hl ⊢;omega) (by omega) (by omega)
   simp only [List.append_assoc,List.singleton_append,List.length_append,List.length_singleton] at this;refine Ev.as this ?_;omega
 intro xs a hl h0 h1;have:=key xs [] a (by simpa using hl) h0 h1
 simpa using this
end Go.Proofs.YtejjlkbbnhpbdaaGreatX
namespace Go.Proofs.YtejjlkbbnhpbdaaGreat.P
open Go.Proofs.YtejjlkbbnhpbdaaGreatX
open Go.RowKit Go.Proofs.YtejjlkbbnhpbdaaGreatW.PrintWords Go.Proofs.YtejjlkbbnhpbdaaGreatW.PrintLast Go.Proofs.YtejjlkbbnhpbdaaGreatW.PrintMore
attribute [local go_sem] max2_int min2_int max_two min_two max_three min_three max_four min_four
set_option linter.unusedVariables false
set_option linter.unusedSimpArgs false
def laws_markInstS.r (k:Nat):List S31→Int→Option (Int×List S31)
 | [],a=>some (a,[])
 | x::xs,a=>(laws_markIntS.f k x.f1 (wrap64 (a+1))).bind fun y=>(laws_markInstS.r k xs y.1).bind fun z=>some (z.1,(⟨a,y.2⟩:S31)::z.2)
def laws_markInstS.f (k:Nat) (l0:List S31) (a1:Int):Option (Int×List S31):=laws_markInstS.r k l0 a1
theorem laws_markInstS.mono_r:∀xs a k,LeO (laws_markInstS.r k xs a) (laws_markInstS.r (k+1) xs a)
 | [],a,k=>LeO.refl _
 | x::xs,a,k=>LeO.bind (laws_markIntS.mono _ _ k) (fun y=>LeO.bind (laws_markInstS.mono_r xs _ k) (fun z=>LeO.refl _))
theorem laws_markInstS.mono:∀a0 a1 k,LeO (laws_markInstS.f k a0 a1) (laws_markInstS.f (k+1) a0 a1):=laws_markInstS.mono_r
open Go.Proofs.YtejjlkbbnhpbdaaGreatX in
set_option maxHeartbeats 8000000 in
set_option maxRecDepth 100000 in
theorem laws_markInstS.calls (k:Nat) (P0_:Nat→Prop) (u9000_:Value) (l0:List (S31)) (a1:Int) (r1:Int) (r2:List (S31)) (w0 w:World) (hB:Below w0.heap.size w0 w) (ho0:Kd.S k31 31 w w0.heap.size P0_ u9000_ l0) (h:laws_markInstS.f k l0 a1=some (r1,r2)):
  Calls Tryz.prog 19 #[u9000_,.int .i64 a1] w fun e w'=>e=.returned (.int .i64 r1)∧Kd.S k31 31 w' w0.heap.size (fun k_=>(P0_ k_∨w.heap.size≤k_)) u9000_ r2∧Below w0.heap.size w0 w'∧Kept w w' (fun k_=>P0_ k_):=by
 have HS:=a_ ho0;have HB:=a_ hB;have HH:Aside0 (laws_markInstS.r k l0 a1=some (r1,r2)):=⟨h⟩
 obtain ⟨A,c,e0,hlc,hC⟩:=Kd.S_reads ho0;subst e0;have hlm:l0.length≤9223372036854775807:=hC.2.1
 have hu0:=Tryz.underlying31;clear ho0 hB h hlc hC;go_enter Tryz.func19,Tryz.ntmps19;go_wp2;go_loopg [1,5] l0.length (fun gg v1 v5 wr=>∃(d t:List (S31)) (a:Int) (z:List (S31)),d.length+t.length=l0.length∧l0.length-d.length≤gg∧v1=.int .i64 a∧v5=.int .i64 (d.length:Int)∧Aside0 (laws_markInstS.r k t a=some (r1,z))∧Aside0 (d++z=r2)∧Aside0 (Kd.S k31 31 wr w0.heap.size P0_ (.slice A l0.length c) (d++t))∧Aside0 (Below w0.heap.size w0 wr)∧Aside0 (Kept w wr (fun k_=>P0_ k_)))
 case atStart=>exact ⟨[],l0,a1,r2,by simp,by simp,rfl,rfl,HH,⟨rfl⟩,HS,HB,⟨Kept.refl _ _⟩⟩
 obtain ⟨d,t,a,z,hdt,hgg,rfl,rfl,HR,HZ,HO,HB1,HK⟩:=hrel;cases t with
 | nil=>
  have hdl:d.length=l0.length:=by simpa using hdt
  have hnl:¬((d.length:Int)<(l0.length:Int)):=by omega
  go_wp2;go_ret;have e1:=Option.some.inj HR.out;injection e1 with e1 e2
  subst e1;refine ⟨rfl,?_,HB1.out,HK.out⟩;have:=HO.out
  rw [←HZ.out,←e2];exact Kd.S_mono this (fun _ hk=>.inl hk)
 | cons x t=>
  have hdl:d.length<l0.length:=by rw [List.length_cons] at hdt;omega
  have hz:(d.length:Int)<(l0.length:Int):=by omega
  have hz0:(0:Int)≤(d.length:Int):=by omega
  have hnat:((d.length:Int)).toNat=d.length:=by omega
  have HRR:=HR.out;unfold laws_markInstS.r at HRR
  obtain ⟨y2,hy,Hy⟩:=Option.bind_eq_some_iff.1 HRR;obtain ⟨zz,h3,Hc⟩:=Option.bind_eq_some_iff.1 Hy;have Hd:=Option.some.inj Hc;injection Hd with H4 H5
  have A2:=a_ hy;have A3:=a_ h3;have A4:=a_ H4;have A5:=a_ H5;clear  hy h3 H4 H5 HR HRR  Hy Hc;have hsl:(d++x::t).length=l0.length:=by simp at hdt ⊢;omega
  have HL:=a_ hsl;obtain ⟨g,cap,eg,hgb,hgl,_⟩:=Kd.S_form HO.out (by omega);rw [hsl] at eg;injection eg with eA _ ec
  subst eA;subst ec;have HP:Aside0 (P0_ g):=⟨(Kd.S_R HO.out).1 g (by simp [Value.ownBlock])⟩
  have HO1:=HO;have HK1:=HK;clear hsl hgl HO HK
  go_wp2_with (first
   | ((with_reducible refine gate_store (t:=3) (p:=16) rfl ?_);(obtain ⟨oki,cc,_,hM,_,_,hoki,hH⟩:=Kd.S_elem HO1.out z31 (d.length:Int) (by omega) (by omega));rw [Int.toNat_natCast,rd_mid] at hM;(obtain ⟨vs,ec,hI⟩:=k31_openM hM);subst ec;refine Kd.H_store k31 w0.heap.size rfl rfl 3 (.tmp 16) (.tmp 14) rfl 31 (d.length:Int) 0 (d++x::t) (⟨a,x.f1⟩:S31) (.int .i64 a) [.int .i64 a] [.int .i64 x.f0,vs] P0_ oki oki rfl (by rw [Int.toNat_natCast];rfl) rfl rfl (by kernel_rfl) (by intro q hq;simp at hq;subst hq;rfl) hH (by omega) (by omega) (show (0:Nat)+1≤2 by decide) (k31_mkM _ _ _ (⟨a,x.f1⟩:S31) hI) (fun _ h=>h) HB1.out ?_;intro w1 ho hb hg;rw [Int.toNat_natCast,set_mid] at ho;have HO2:=a_ ho;have HB2:=a_ hb;have HK2:=a_ (Kept.of_grown hg HK1.out (by intro k_ e;injection e with e;subst e;exact .inl HP.out));clear ho hb hg hH hI hM hoki HO1 HB1 HK1;(obtain ⟨oki,cc,_,hM,hcc,hoki,hH⟩:=Kd.S_lend HO2.out z31 (d.length:Int) (by omega) (by omega));rw [Int.toNat_natCast,rd_mid] at hM;(obtain ⟨vs,ec,hI⟩:=k31_openM hM);subst ec;have hx2:=hcc 1 _ rfl;rw [Int.toNat_natCast] at hx2;have hx2:w1.cell? ⟨g,d.length*2+1,none⟩=some vs:=hx2;have HH:=a_ hH;have HI:=a_ hI;clear hH hI hM hcc hoki)
   | (go_at_call 44;refine (laws_markIntS.calls k oki vs x.f1 (wrap64 (a+1)) y2.1 y2.2 w0 _ HB2.out HI.out A2.out).mono ?_;rintro e w2 ⟨rfl,hr,hb,hk⟩;have hr2:=Kd.R_mono (Kd.R_tight rfl hr) (fun k_ hk_=>HI.out.1 k_ hk_.symm);have hs:=Kd.H_back (Kd.H_kept HH.out hk (fun k_ _ h_=>h_)) (k31_mkM _ _ _ (⟨a,y2.2⟩:S31) hr2) (fun _ h=>h);rw [Int.toNat_natCast,set_mid] at hs;have HO3:=a_ hs;have HB3:=a_ hb;have HK3:=a_ (HK2.out.then_ hk (fun k_ hk_=>.inl (HH.out.1 k_ hk_)));clear hr hr2 hs hb hk HO2 HB2 HK2))
  go_roundg (l0.length-(d.length+1))
  case measure=>omega
  case rel=>exact ⟨d++[(⟨a,y2.2⟩:S31)],t,y2.1,zz.2,by simp at hdt ⊢;omega,by simp,rfl,by rw [List.length_append,List.length_singleton];go_num,⟨by rw [A3.out,←A4.out]⟩,⟨by rw [←HZ.out,←A5.out];simp⟩,⟨by rw [List.append_assoc];exact HO3.out⟩,HB3,HK3⟩
end Go.Proofs.YtejjlkbbnhpbdaaGreat.P
namespace Go.Proofs.YtejjlkbbnhpbdaaGreat.P
open Go.Proofs.YtejjlkbbnhpbdaaGreatX
open Go.RowKit Go.Proofs.YtejjlkbbnhpbdaaGreatW.PrintWords Go.Proofs.YtejjlkbbnhpbdaaGreatW.PrintLast Go.Proofs.YtejjlkbbnhpbdaaGreatW.PrintMore
attribute [local go_sem] max2_int min2_int max_two min_two max_three min_three max_four min_four
set_option linter.unusedVariables false
set_option linter.unusedSimpArgs false
def laws_heldIntS.l0:Nat→List Int→Int→Int→Option (Int)
 | 0,_,_,_=>none
 | k+1,x0,x1,x5=>if x5<(x0.length:Int) then (if 0≤x5 then (if (rd x0 x5)=x1 then (laws_heldIntS.l0 k x0 (wrap64 (x1+1)) (wrap64 (x5+1))) else (some (-1))) else (none)) else (some x1)
def laws_heldIntS.f (k:Nat) (l0:List Int) (a1:Int):Option (Int):=laws_heldIntS.l0 k l0 a1 0
theorem laws_heldIntS.mono_l:∀k,(∀y0 y1 y2,LeO (laws_heldIntS.l0 k y0 y1 y2) (laws_heldIntS.l0 (k+1) y0 y1 y2))
 | 0=>fun _ _ _ r h=>by simp [laws_heldIntS.l0] at h
 | k+1=>by
  have ih0:=laws_heldIntS.mono_l k
  ·intro y0 y1 y2;unfold laws_heldIntS.l0
   repeat' with_reducible first|apply ih0|apply LeO.refl|apply LeO.none|refine LeO.ite ?_ ?_|refine LeO.bind ?_ (fun _=>?_)
theorem laws_heldIntS.mono:∀a0 a1 k,LeO (laws_heldIntS.f k a0 a1) (laws_heldIntS.f (k+1) a0 a1):=by
 intro a0 a1 k;have ih0:=laws_heldIntS.mono_l k;unfold laws_heldIntS.f
 repeat' with_reducible first|apply ih0|apply LeO.refl|apply LeO.none|refine LeO.ite ?_ ?_|refine LeO.bind ?_ (fun _=>?_)
set_option maxHeartbeats 8000000 in
set_option maxRecDepth 100000 in
theorem laws_heldIntS.calls (k:Nat) (A0:Option Addr) (c0:Nat) (l0:List Int) (a1:Int) (r:Int) (w:World) (hr0:Kd.C (Kd.int .i64) w A0 l0.length l0) (hc0:l0.length≤c0) (h:laws_heldIntS.f k l0 a1=some r):
  Calls Tryz.prog 45 #[.slice A0 l0.length c0,.int .i64 a1] w fun e w'=>e=.returned (.int .i64 r)∧Drawn0 w w':=by
 have HR0:=a_ hr0;have HC0:=a_ hc0;clear hr0 hc0;have H:(laws_heldIntS.l0 k l0 a1 0)=some r:=h
 clear h;have H':=a_ H;clear H;go_enter Tryz.func45,Tryz.ntmps45;go_wp2;go_loopg [1,5] k (fun kq v1 v5 w'=>∃(x1_1:Int) (x5_1:Int),v1=.int .i64 x1_1∧v5=.int .i64 x5_1∧Aside0 (laws_heldIntS.l0 kq l0 x1_1 x5_1=some r)∧Aside0 (kq≤k)∧Drawn0 w w')
 case atStart=>exact ⟨(a1),(0),mq_,mq_,H',⟨Nat.le_refl _⟩,by repeat (first|exact Drawn0.refl _|apply Drawn0.step)⟩
 clear H';obtain ⟨x1_1,x5_1,rfl,rfl,HA,HK1,⟨m1,rfl⟩⟩:=hrel;obtain _|k1:=gk
 ·exact absurd HA.out (by simp [laws_heldIntS.l0])
 have H:=HA.out;clear HA;simp only [laws_heldIntS.l0] at H;by_cases c3:x5_1<(l0.length:Int)
 ·rw [if_pos c3] at H;have c3b0:=ct_ c3;clear c3;by_cases c4:0≤x5_1
  case neg=>
   rw [if_neg c4] at H;cases H
  rw [if_pos c4] at H;have c4b0:=ct_ c4;clear c4;by_cases c5:(rd l0 x5_1)=x1_1
  ·rw [if_pos c5] at H;obtain ⟨c5b0,c5b1⟩:=bq_ c5;clear c5;have H':=a_ H;clear H;have p697:0≤(x5_1:Int):=md_
   have q697:x5_1<(l0.length:Int):=md_
   obtain ⟨ad697,e697,hx697_0⟩:=Kd.at_int HR0.out x5_1 p697 q697;cases e697;replace p697:=eq_true p697;replace q697:=eq_true q697;go_wp2;go_roundg k1
   case measure=>
    have:=HK1.out
    omega
   case rel=>exact ⟨(wrap64 (x1_1+1)),(wrap64 (x5_1+1)),mq_,mq_,H',⟨by have:=HK1.out;omega⟩,by repeat (first|exact Drawn0.refl _|apply Drawn0.step)⟩
  ·rw [if_neg c5] at H;obtain ⟨c5b0,c5b1⟩:=bn_ c5;obtain rfl:=oi_ H;have p697:0≤(x5_1:Int):=md_
   have q697:x5_1<(l0.length:Int):=md_
   obtain ⟨ad697,e697,hx697_0⟩:=Kd.at_int HR0.out x5_1 p697 q697;cases e697;replace p697:=eq_true p697;replace q697:=eq_true q697;go_wp2;go_ret;exact ⟨by first|rfl|(simp;done)|(simp [*];done),by repeat (first|exact Drawn0.refl _|apply Drawn0.step)⟩
 ·rw [if_neg c3] at H;have c3b0:=cf_ c3;clear c3;obtain rfl:=oi_ H;go_wp2;go_ret;exact ⟨by first|rfl|(simp;done)|(simp [*];done),by repeat (first|exact Drawn0.refl _|apply Drawn0.step)⟩
def laws_heldInstS.l0:Nat→List (S31)→Int→Int→Option (Int)
 | 0,_,_,_=>none
 | k+1,x0,x1,x5=>if x5<(x0.length:Int) then (if 0≤x5 then (if ((rd_T31 x0 x5).f0)=x1 then ((laws_heldIntS.f k ((rd_T31 x0 x5).f1) (wrap64 (x1+1))).bind fun t700=>(if t700<0 then (some (-1)) else (laws_heldInstS.l0 k x0 t700 (wrap64 (x5+1))))) else (some (-1))) else (none)) else (some x1)
def laws_heldInstS.f (k:Nat) (l0:List (S31)) (a1:Int):Option (Int):=laws_heldInstS.l0 k l0 a1 0
theorem laws_heldInstS.mono_l:∀k,(∀y0 y1 y2,LeO (laws_heldInstS.l0 k y0 y1 y2) (laws_heldInstS.l0 (k+1) y0 y1 y2))
 | 0=>fun _ _ _ r h=>by simp [laws_heldInstS.l0] at h
 | k+1=>by
  have ih0:=laws_heldInstS.mono_l k
  ·intro y0 y1 y2;unfold laws_heldInstS.l0
   repeat' with_reducible first|apply ih0|apply laws_heldIntS.mono|apply LeO.refl|apply LeO.none|refine LeO.ite ?_ ?_|refine LeO.bind ?_ (fun _=>?_)
theorem laws_heldInstS.mono:∀a0 a1 k,LeO (laws_heldInstS.f k a0 a1) (laws_heldInstS.f (k+1) a0 a1):=by
 intro a0 a1 k;have ih0:=laws_heldInstS.mono_l k;unfold laws_heldInstS.f
 repeat' with_reducible first|apply ih0|apply laws_heldIntS.mono|apply LeO.refl|apply LeO.none|refine LeO.ite ?_ ?_|refine LeO.bind ?_ (fun _=>?_)
set_option maxHeartbeats 8000000 in
set_option maxRecDepth 100000 in
theorem laws_heldInstS.calls (k:Nat) (A0:Option Addr) (c0:Nat) (l0:List (S31)) (a1:Int) (r:Int) (w:World) (hr0:Kd.C k31 w A0 l0.length l0) (hc0:l0.length≤c0) (h:laws_heldInstS.f k l0 a1=some r):
  Calls Tryz.prog 20 #[.slice A0 l0.length c0,.int .i64 a1] w fun e w'=>e=.returned (.int .i64 r)∧Drawn0 w w':=by
 have HR0:=a_ hr0;have HC0:=a_ hc0;clear hr0 hc0;have H:(laws_heldInstS.l0 k l0 a1 0)=some r:=h
 clear h;have H':=a_ H;clear H;go_enter Tryz.func20,Tryz.ntmps20;go_wp2;go_loopg [1,5] k (fun kq v1 v5 w'=>∃(x1_1:Int) (x5_1:Int),v1=.int .i64 x1_1∧v5=.int .i64 x5_1∧Aside0 (laws_heldInstS.l0 kq l0 x1_1 x5_1=some r)∧Aside0 (kq≤k)∧Drawn0 w w')
 case atStart=>exact ⟨(a1),(0),mq_,mq_,H',⟨Nat.le_refl _⟩,by repeat (first|exact Drawn0.refl _|apply Drawn0.step)⟩
 clear H';obtain ⟨x1_1,x5_1,rfl,rfl,HA,HK1,⟨m1,rfl⟩⟩:=hrel;obtain _|k1:=gk
 ·exact absurd HA.out (by simp [laws_heldInstS.l0])
 have H:=HA.out;clear HA;simp only [laws_heldInstS.l0] at H;by_cases c3:x5_1<(l0.length:Int)
 ·rw [if_pos c3] at H;have c3b0:=ct_ c3;clear c3;by_cases c4:0≤x5_1
  case neg=>
   rw [if_neg c4] at H;cases H
  rw [if_pos c4] at H;have c4b0:=ct_ c4;clear c4;by_cases c5:((rd_T31 l0 x5_1).f0)=x1_1
  ·rw [if_pos c5] at H;obtain ⟨c5b0,c5b1⟩:=bq_ c5;clear c5;obtain ⟨t700,A6,H⟩:=ob_ H;by_cases c7:t700<0
   ·rw [if_pos c7] at H;have c7b0:=ct_ c7;clear c7;obtain rfl:=oi_ H;have p698:0≤(x5_1:Int):=md_
    have q698:x5_1<(l0.length:Int):=md_
    obtain ⟨ad698,A698_1,c698_1,e698,hx698_0,hx698_1,hl698_1,hi698_1⟩:=at_T31 HR0.out x5_1 p698 q698;cases e698;have HR698_1:=a_ hi698_1;have HC698_1:=a_ hl698_1;clear hi698_1 hl698_1;replace p698:=eq_true p698;replace q698:=eq_true q698;have p699:0≤(x5_1:Int):=md_
    have q699:x5_1<(l0.length:Int):=md_
    obtain ⟨ad699,A699_1,c699_1,e699,hx699_0,hx699_1,hl699_1,hi699_1⟩:=at_T31 HR0.out x5_1 p699 q699;obtain rfl:ad698=ad699:=(by injection e699);have HR699_1:=a_ hi699_1;have HC699_1:=a_ hl699_1;clear hi699_1 hl699_1;replace p699:=eq_true p699;replace q699:=eq_true q699;have ea_:=Option.some.inj (hx698_1.symm.trans hx699_1);injection ea_ with ea_ en_ ec_
    subst ea_;subst ec_;clear en_;go_wp2_with (first|((with_reducible refine gate_callee (f:=45) rfl ?_);refine goesL_ (some 27) rfl rfl Tryz.func45 (by kernel_rfl) rfl #[.slice A698_1 ((rd_T31 l0 x5_1).f1).length c698_1,.int .i64 (wrap64 (x1_1+1))] rfl mw_ ?_;(with_reducible refine (laws_heldIntS.calls k1 _ _ ((rd_T31 l0 x5_1).f1) (wrap64 (x1_1+1)) t700 _ ?side1 HC699_1.out A6.out).mono ?_);(case side1=>repeat (first|exact HR699_1.out|(with_reducible refine Kd.C_alloc ?_ _)|(with_reducible refine Kd.C_drewN ?_ _)|(with_reducible refine Kd.C_drew ?_)));rintro e w' ⟨rfl,⟨nd,rfl⟩⟩;refine ⟨_,rfl,?_⟩));go_ret;exact ⟨by first|rfl|(simp;done)|(simp [*];done),by repeat (first|exact Drawn0.refl _|apply Drawn0.step)⟩
   ·rw [if_neg c7] at H;have c7b0:=cf_ c7;clear c7;have H':=a_ H;clear H;have p698:0≤(x5_1:Int):=md_
    have q698:x5_1<(l0.length:Int):=md_
    obtain ⟨ad698,A698_1,c698_1,e698,hx698_0,hx698_1,hl698_1,hi698_1⟩:=at_T31 HR0.out x5_1 p698 q698;cases e698;have HR698_1:=a_ hi698_1;have HC698_1:=a_ hl698_1;clear hi698_1 hl698_1;replace p698:=eq_true p698;replace q698:=eq_true q698;have p699:0≤(x5_1:Int):=md_
    have q699:x5_1<(l0.length:Int):=md_
    obtain ⟨ad699,A699_1,c699_1,e699,hx699_0,hx699_1,hl699_1,hi699_1⟩:=at_T31 HR0.out x5_1 p699 q699;obtain rfl:ad698=ad699:=(by injection e699);have HR699_1:=a_ hi699_1;have HC699_1:=a_ hl699_1;clear hi699_1 hl699_1;replace p699:=eq_true p699;replace q699:=eq_true q699;have ea_:=Option.some.inj (hx698_1.symm.trans hx699_1);injection ea_ with ea_ en_ ec_
    subst ea_;subst ec_;clear en_;go_wp2_with (first|((with_reducible refine gate_callee (f:=45) rfl ?_);refine goesL_ (some 27) rfl rfl Tryz.func45 (by kernel_rfl) rfl #[.slice A698_1 ((rd_T31 l0 x5_1).f1).length c698_1,.int .i64 (wrap64 (x1_1+1))] rfl mw_ ?_;(with_reducible refine (laws_heldIntS.calls k1 _ _ ((rd_T31 l0 x5_1).f1) (wrap64 (x1_1+1)) t700 _ ?side1 HC699_1.out A6.out).mono ?_);(case side1=>repeat (first|exact HR699_1.out|(with_reducible refine Kd.C_alloc ?_ _)|(with_reducible refine Kd.C_drewN ?_ _)|(with_reducible refine Kd.C_drew ?_)));rintro e w' ⟨rfl,⟨nd,rfl⟩⟩;refine ⟨_,rfl,?_⟩));go_roundg k1
    case measure=>
     have:=HK1.out
     omega
    case rel=>exact ⟨(t700),(wrap64 (x5_1+1)),mq_,mq_,H',⟨by have:=HK1.out;omega⟩,by repeat (first|exact Drawn0.refl _|apply Drawn0.step)⟩
  ·rw [if_neg c5] at H;obtain ⟨c5b0,c5b1⟩:=bn_ c5;obtain rfl:=oi_ H;have p698:0≤(x5_1:Int):=md_
   have q698:x5_1<(l0.length:Int):=md_
   obtain ⟨ad698,A698_1,c698_1,e698,hx698_0,hx698_1,hl698_1,hi698_1⟩:=at_T31 HR0.out x5_1 p698 q698;cases e698;have HR698_1:=a_ hi698_1;have HC698_1:=a_ hl698_1;clear hi698_1 hl698_1;replace p698:=eq_true p698;replace q698:=eq_true q698;go_wp2;go_ret;exact ⟨by first|rfl|(simp;done)|(simp [*];done),by repeat (first|exact Drawn0.refl _|apply Drawn0.step)⟩
 ·rw [if_neg c3] at H;have c3b0:=cf_ c3;clear c3;obtain rfl:=oi_ H;go_wp2;go_ret;exact ⟨by first|rfl|(simp;done)|(simp [*];done),by repeat (first|exact Drawn0.refl _|apply Drawn0.step)⟩
end Go.Proofs.YtejjlkbbnhpbdaaGreat.P
namespace Go.Proofs.YtejjlkbbnhpbdaaGreat.Pure
open Go.RowKit Go.Proofs.YtejjlkbbnhpbdaaGreat.P Go.Proofs.YtejjlkbbnhpbdaaGreatW.PrintWords Go.Proofs.YtejjlkbbnhpbdaaGreatW.PrintLast Go.Proofs.YtejjlkbbnhpbdaaGreatX
set_option linter.unusedVariables false
set_option linter.unusedSimpArgs false
abbrev Pr:Type:=S31×Nat
def zP:Pr:=(z31,0)
abbrev kP (f:Nat→Nat):Kd Pr:=Kd.tag f k31
theorem agE {f:Nat→Nat}:∀q,q∈31::(kP f).E→q≠68:=by
 show ∀q,q∈31::k31.E→q≠68;decide
theorem bl_ {w w1:World} {p:Addr} {v:Value} (hb:Below w.heap.size w w1) (h:w.cell? p=some v):w1.cell? p=some v:=(hb.cell (World.block_lt_of_cell? w _ h)).trans h
abbrev AgB (w:World) (b:Nat) (vR vL:Value):Prop:=w.heap[b]?=some (.cells #[vR,vL] 68 (0,0))
theorem agM {w:World} {base:Nat} {f:Nat→Nat} {ok:Nat→Prop} {x:Pr} {cs:List Value} (h:(kP f).M w base ok x cs):∃A c,cs=[.int .i64 x.1.f0,.slice A x.1.f1.length c]∧x.1.f1.length≤c∧(Kd.int .i64).C w A x.1.f1.length x.1.f1∧(Kd.int .i64).R 3 w base (fun k=>ok k∧f k=x.2) (.slice A x.1.f1.length c) x.1.f1:=by
 obtain ⟨v,rfl,hI⟩:=k31_openM h;obtain ⟨A,c,rfl⟩:=Kd.R_slice hI;obtain ⟨_,h2,h3⟩:=Kd.R_reads' hI;exact ⟨A,c,rfl,h2,h3,hI⟩
theorem agM_mk {w:World} {base:Nat} {f:Nat→Nat} {ok:Nat→Prop} {x:Pr} {v:Value} (h:(Kd.int .i64).R 3 w base (fun k=>ok k∧f k=x.2) v x.1.f1):(kP f).M w base ok x [.int .i64 x.1.f0,v]:=k31_mkM _ _ _ _ h
theorem ag_Len {f:Nat→Nat} {base:Nat} {ok:Nat→Prop} {vR v:Value} {zs:List Pr} (b:Nat) (w:World) (hb:AgB w b vR v) (h:(kP f).R 31 w base ok v zs):
  Calls Tryz.prog 38 #[.pointer (some ⟨b,0,none⟩)] w fun e w'=>e=.returned (.int .i64 zs.length)∧w'=w:=by
 obtain ⟨A,c,rfl⟩:=Kd.R_slice h;have hx:=(blk_cell hb 1).trans rfl;simp only [List.getElem?_toArray,List.getElem?_cons_zero,List.getElem?_cons_succ] at hx;have hu:=Tryz.underlying68;clear hb h;go_enter Tryz.func38,Tryz.ntmps38;go_wp2;go_ret;exact ⟨rfl,rfl⟩
set_option maxHeartbeats 4000000 in
set_option maxRecDepth 100000 in
theorem ag_Less {f:Nat→Nat} {base:Nat} {ok:Nat→Prop} {AR:Option Addr} {cR:Nat} {rs:List S58} {v:Value} {zs:List Pr} (k b:Nat) (i j:Nat) (r:Bool) (w:World) (hC:Kd.C k58 w AR rs.length rs) (hcR:rs.length≤cR)
  (hb:AgB w b (.slice AR rs.length cR) v) (h:(kP f).R 31 w base ok v zs) (hi:i<zs.length) (hj:j<zs.length) (hr:impl_before.f k rs (zs.getD i zP).1.f0 (zs.getD i zP).1.f1 (zs.getD j zP).1.f0 (zs.getD j zP).1.f1=some r):
  Calls Tryz.prog 156 #[.pointer (some ⟨b,0,none⟩),.int .i64 (i:Int),.int .i64 (j:Int)] w fun e w'=>e=.returned (.bool r)∧Below w.heap.size w w':=by
 obtain ⟨g,cap,rfl,_,_,_⟩:=Kd.R_form h (by omega);obtain ⟨_,_,hM,hcc,_⟩:=Kd.R_elem h zP (i:Int) (by omega) (by omega);obtain ⟨A1,c1,rfl,l1,C1,_⟩:=agM hM;obtain ⟨_,_,hM2,hcd,_⟩:=Kd.R_elem h zP (j:Int) (by omega) (by omega);obtain ⟨A2,c2,rfl,l2,C2,_⟩:=agM hM2;have a0:=hcc 0 _ rfl;have a1:=hcc 1 _ rfl;have b0:=hcd 0 _ rfl;have b1:=hcd 1 _ rfl;simp only [Int.toNat_natCast,show (kP f).sz=2 from rfl,Nat.add_zero] at a0 a1 b0 b1 C1 C2 l1 l2;have q0:=(blk_cell hb 0).trans rfl;have q1:=(blk_cell hb 1).trans rfl;simp only [List.getElem?_toArray,List.getElem?_cons_zero,List.getElem?_cons_succ] at q0 q1;have HC:=a_ hC;have HR:=a_ hr;have HC1:=a_ C1;have HC2:=a_ C2;have z0:(0:Int)≤(i:Int):=by omega
 have z1:(i:Int)<(zs.length:Int):=by omega
 have z2:(0:Int)≤(j:Int):=by omega
 have z3:(j:Int)<(zs.length:Int):=by omega
 have hu:=Tryz.underlying68;have hu1:=Tryz.underlying31;clear hM hcc hM2 hcd hb h C1 C2 hC hr hi hj;generalize zs.getD i zP=x at *;generalize zs.getD j zP=y at *;go_enter Tryz.func156,Tryz.ntmps156;go_wp2
 go_region_held3 (fun w'=>w'.cell? ⟨b,0,none⟩=some (.slice AR rs.length cR)∧w'.cell? ⟨b,1,none⟩=some (.slice (some ⟨g,0,none⟩) zs.length cap)∧w'.cell? ⟨g,i*2,none⟩=some (.int .i64 x.1.f0)∧w'.cell? ⟨g,i*2+1,none⟩=some (.slice A1 x.1.f1.length c1)∧w'.cell? ⟨g,j*2,none⟩=some (.int .i64 y.1.f0)∧w'.cell? ⟨g,j*2+1,none⟩=some (.slice A2 y.1.f1.length c2))
  (first|(go_keep;done)|exact ⟨bl_ hd (by simpa using q0),bl_ hd (by simpa using q1),bl_ hd (by simpa using a0),bl_ hd (by simpa using a1),bl_ hd (by simpa using b0),bl_ hd (by simpa using b1)⟩)
  (first|(go_at_call 30;refine (impl_before.calls k AR cR rs x.1.f0 A1 c1 x.1.f1 y.1.f0 A2 c2 y.1.f1 r _ (Kd.C_drew HC.out) hcR (Kd.C_drew HC1.out) l1 (Kd.C_drew HC2.out) l2 HR.out).mono ?_;rintro e w1 ⟨rfl,hd⟩))
 go_wp2;go_ret;exact ⟨rfl,below_step (below_drew1 (Below.refl _ _)) hd⟩
end Go.Proofs.YtejjlkbbnhpbdaaGreat.Pure
namespace Go.Proofs.YtejjlkbbnhpbdaaGreat.Pure
open Go.RowKit Go.Proofs.YtejjlkbbnhpbdaaGreat.P Go.Proofs.YtejjlkbbnhpbdaaGreatW.PrintWords Go.Proofs.YtejjlkbbnhpbdaaGreatW.PrintLast Go.Proofs.YtejjlkbbnhpbdaaGreatX
set_option linter.unusedVariables false
set_option linter.unusedSimpArgs false
set_option maxHeartbeats 2000000 in
theorem ag_bad {AR:Option Addr} {cR:Nat} {rs:List S58} (bR:Nat) (q:Int) (A:Option Addr) (c:Nat) (t:List Int) (b:Bool) (w:World) (hb:w.heap[bR]?=some (.cells #[.slice AR rs.length cR] 29 (0,0))) (hC:Kd.C k58 w AR rs.length rs) (hcR:rs.length≤cR)
  (hT:Kd.C (Kd.int .i64) w A t.length t) (hc:t.length≤c) (h:impl_there.f rs q t=some b):
  Calls Tryz.prog 34 #[.agg #[.int .i64 q,.slice A t.length c],.pointer (some ⟨bR,0,none⟩)] w fun e w'=>e=.returned (.bool (!b))∧Below w.heap.size w w':=by
 have HB:=a_ hb;have HC:=a_ hC;have HT:=a_ hT;have HH:=a_ h;have HCR:=a_ hcR;have HCC:=a_ hc;have hx:=(blk_cell (blk_alloc hb (.cells #[.int .i64 q,.slice A t.length c] 31)) 0).trans rfl;simp only [List.getElem?_toArray,List.getElem?_cons_zero,List.getElem?_cons_succ] at hx;have hu:=Tryz.underlying31;clear hb hC hT h hcR hc;go_enter Tryz.func34,Tryz.ntmps34;go_wp2_with (first|(go_at_call 28;refine (impl_there.calls AR cR rs q A c t b _ (Kd.C_alloc HC.out _) HCR.out (Kd.C_alloc HT.out _) HCC.out HH.out).mono ?_;rintro e w1 ⟨rfl,hd⟩));go_ret;exact ⟨rfl,below_step (below_alloc (Below.refl _ _) _) hd⟩
set_option maxHeartbeats 4000000 in
set_option maxRecDepth 100000 in
theorem idxInst {AR:Option Addr} {cR:Nat} {rs:List S58} (bR:Nat) (p:S31→Bool) (A:Option Addr) (c:Nat) (xs:List S31) (w:World) (hb:w.heap[bR]?=some (.cells #[.slice AR rs.length cR] 29 (0,0))) (hC:Kd.C k58 w AR rs.length rs) (hcR:rs.length≤cR)
  (hr:Kd.C k31 w A xs.length xs) (hc:xs.length≤c) (hm:xs.length≤1048576) (hp:∀x,x∈xs→impl_there.f rs x.f0 x.f1=some (p x)):
  Calls Tryz.prog 62 #[.slice A xs.length c,.func (.func 34) #[] #[.pointer (some ⟨bR,0,none⟩)]] w fun e w'=>e=.returned (.int .i64 (idxB (fun x=>!p x) xs))∧Below w.heap.size w w':=by
 have HR:=a_ hr;have HB:=a_ hb;have HC:=a_ hC;have HCR:=a_ hcR;have HP:=a_ hp;have HM:=a_ hm;have BE:=a_ (Below.refl w.heap.size w);clear hr hb hC hcR hp hc hm;go_enter Tryz.func62,Tryz.ntmps62;go_wp2;go_loopg [8] xs.length (fun gg v8 wr=>∃kk:Nat,kk≤xs.length∧xs.length-kk≤gg∧v8=.int .i64 (kk:Int)∧Aside0 (Below w.heap.size w wr)∧Aside0 (∀j,j<kk→(!p (xs.getD j z31))=false))
 case atStart=>exact ⟨0,Nat.zero_le _,by omega,rfl,BE,⟨fun j hj=>by omega⟩⟩
 case round=>
  obtain ⟨kk,hk,hgg,rfl,BW,MI⟩:=hrel;by_cases hlt:kk<xs.length
  ·have hz:(kk:Int)<(xs.length:Int):=by omega
   have hz0:(0:Int)≤(kk:Int):=by omega
   have hz1:(kk:Int)≤1048576:=by have:=HM.out;omega
   obtain ⟨ad,A1,c1,e0,hx0,hx1,hl1,hi1⟩:=at_T31 HR.out (kk:Int) hz0 hz;cases e0;replace hx0:=mx_ BW hx0;replace hx1:=mx_ BW hx1;have hrd:rd_T31 xs (kk:Int)=xs.getD kk z31:=by simp [rd_T31]
   rw [hrd] at hx0 hx1 hl1 hi1;simp only [Int.toNat_natCast] at hx0 hx1;have hy:=HP.out _ (Go.Proofs.YtejjlkbbnhpbdaaGreatX.getD_mem (z:=z31) hlt);have hcall:=ag_bad bR _ A1 c1 _ _ wr (blk_below HB.out BW.out) (Kd.C_below HC.out BW.out) HCR.out (Kd.C_below hi1 BW.out) hl1 hy;have HL:=a_ hlt;clear hrd hl1 hi1 hy;generalize hy:xs.getD kk z31=y at hx0 hx1 hcall;have HY:=a_ hy;clear hy;cases hq:p y with
   | false=>
    rw [hq] at hcall;have HQ:=a_ hq;have HH:=a_ hcall;clear hq hcall;go_wp2_with (go_at_call 34;refine HH.out.mono ?_;rintro e w' ⟨rfl,hb'⟩);go_ret;refine ⟨?_,below_then BW.out BW.out.size hb'⟩;rw [idxB_hit (fun x=>!p x) xs kk z31 HL.out (by show (!p (xs.getD kk z31))=true;rw [HY.out,HQ.out];rfl) MI.out];rfl
   | true=>
    rw [hq] at hcall;have HQ:=a_ hq;have HH:=a_ hcall;clear hq hcall;go_wp2_with (go_at_call 34;refine HH.out.mono ?_;rintro e w' ⟨rfl,hb'⟩);go_roundg (xs.length-(kk+1))
    case measure=>omega
    case rel=>
     refine ⟨kk+1,by omega,by omega,by go_num,⟨below_then BW.out BW.out.size hb'⟩,⟨fun j hj=>?_⟩⟩;by_cases e:j=kk
     ·subst e;rw [HY.out,HQ.out];rfl
     ·exact MI.out j (by omega)
  ·have hltz:¬(kk:Int)<(xs.length:Int):=by omega
   have hk:kk=xs.length:=by omega
   have HK:=a_ hk;clear hk;go_wp2;go_ret;refine ⟨?_,BW.out⟩
   have hmiss:∀x,x∈xs→(!p x)=false:=by
    intro x hx;obtain ⟨j,hj,e⟩:=List.getElem_of_mem hx;have:=MI.out j (by have:=HK.out;omega)
    rw [List.getD_eq_getElem?_getD,List.getElem?_eq_getElem hj] at this;rw [←e];exact this
   rw [idxB_miss (fun x=>!p x) xs hmiss];rfl
theorem anyInst {AR:Option Addr} {cR:Nat} {rs:List S58} (bR:Nat) (p:S31→Bool) (A:Option Addr) (c:Nat) (xs:List S31) (w:World) (hb:w.heap[bR]?=some (.cells #[.slice AR rs.length cR] 29 (0,0))) (hC:Kd.C k58 w AR rs.length rs) (hcR:rs.length≤cR)
  (hr:Kd.C k31 w A xs.length xs) (hc:xs.length≤c) (hm:xs.length≤1048576) (hp:∀x,x∈xs→impl_there.f rs x.f0 x.f1=some (p x)):
  Calls Tryz.prog 35 #[.slice A xs.length c,.func (.func 34) #[] #[.pointer (some ⟨bR,0,none⟩)]] w fun e w'=>e=.returned (.bool (xs.any (fun x=>!p x)))∧Below w.heap.size w w':=by
 have hcall:=idxInst bR p A c xs w hb hC hcR hr hc hm hp;rw [←idxB_any];have HH:=a_ hcall;clear hcall hr hc hm hp hb hC hcR;go_enter Tryz.func35,Tryz.ntmps35;go_wp2_with (go_at_call 62;refine HH.out.mono ?_;rintro e w' ⟨rfl,hb'⟩);go_ret;exact ⟨rfl,hb'⟩
theorem cloneI (A:Option Addr) (c:Nat) (l:List Int) (w:World) (hr:Kd.C (Kd.int .i64) w A l.length l) (hl:l.length≤1048576):
  Calls Tryz.prog 37 #[.slice A l.length c] w fun e w'=>∃v',e=.returned v'∧Kd.R (Kd.int .i64) 3 w' w.heap.size (fun _=>True) v' l∧Below w.heap.size w w':=by
 cases l with
 | nil=>
  cases A with
  | none=>
   refine (Tryz.slices_Clone_int_nil 0 c w).mono ?_;rintro e w' ⟨rfl,rfl⟩;exact ⟨_,rfl,Kd.R_nil _ _ _ _ _,Below.refl _ _⟩
  | some a=>
   refine (Tryz.slices_Clone_int_zero a c w).mono ?_;rintro e w' ⟨v',rfl,ho,hn,hb⟩;exact ⟨_,rfl,Kd.R_of_own (enc:=Value.int .i64) ho (fun _ _=>trivial),hb⟩
 | cons x xs=>
  obtain ⟨ad,c1,e0,hs,hk,hcell⟩:=Kd.C_get hr (0:Int) 0 (by omega) (by simp);obtain ⟨ad',e1,hall⟩:=hr.2.2 (by simp);rw [e0] at e1;have e1:=Option.some.inj e1;subst e1
  have hat:∀j,j<(x::xs).length→w.cell? (ad.add j)=some (.int .i64 ((x::xs).getD j 0)):=by
   intro j hj;obtain ⟨c',hs',hk',hc'⟩:=hall j _ (List.getElem?_eq_getElem hj);have hk'':c'=[Value.int .i64 (x::xs)[j]]:=hk'
   subst hk'';have:=hc' 0 _ rfl
   rw [Go.Proofs.YtejjlkbbnhpbdaaGreatX.getD_lt (0:Int) hj];simpa [Kd.int,Kd.scalar] using this
  have h0:=hat 0 (by simp)
  have hsp:ad=⟨ad.block,ad.off,none⟩:=by
   refine spot_none (w:=w) (v:=.int .i64 ((x::xs).getD 0 0)) ?_;simpa [Addr.add] using h0
  rw [e0,hsp];rw [hsp] at hat;refine (Tryz.slices_Clone_int ad.block ad.off (x::xs).length c (x::xs) w (Nat.le_refl _) (by omega) (fun j hj=>?_)).mono ?_
  ·have:=hat j hj
   rw [Addr.add_lit] at this;exact this
  ·rintro e w' ⟨v',rfl,ho,hn,hb⟩;rw [List.take_length] at ho;exact ⟨_,rfl,Kd.R_of_own (enc:=Value.int .i64) ho (fun _ _=>trivial),hb⟩
end Go.Proofs.YtejjlkbbnhpbdaaGreat.Pure
namespace Go.Proofs.YtejjlkbbnhpbdaaGreat.Pure
open Go.RowKit Go.Proofs.YtejjlkbbnhpbdaaGreat.P Go.Proofs.YtejjlkbbnhpbdaaGreatW.PrintWords Go.Proofs.YtejjlkbbnhpbdaaGreatW.PrintLast Go.Proofs.YtejjlkbbnhpbdaaGreatX
set_option linter.unusedVariables false
set_option linter.unusedSimpArgs false
theorem ag_assert (a:Int) (A:Option Addr) (n c:Nat) (w:World):(Instr.typeAssert (.iface 31 (.agg #[.int .i64 a,.slice A n c])) 20 31 false).run Tryz.prog w=.ok (.agg #[.int .i64 a,.slice A n c]) w:=by kernel_rfl
attribute [local go_sem] ag_assert
set_option maxHeartbeats 4000000 in
set_option maxRecDepth 100000 in
theorem ag_Push {f:Nat→Nat} {ok okp:Nat→Prop} {vR v:Value} {zs:List Pr} (b:Nat) (w0 w:World) (hB:Below w0.heap.size w0 w) (hwb:w0.heap.size≤b)
  (hb:AgB w b vR v) (h:(kP f).R 31 w w0.heap.size ok v zs) (x:Pr) (A:Option Addr) (c:Nat) (hx:(Kd.int .i64).R 3 w w0.heap.size (fun k=>okp k∧f k=x.2) (.slice A x.1.f1.length c) x.1.f1)
  (hok:∀k,okp k→ok k∧some k≠v.ownBlock) (hnew:∀k,w.heap.size≤k→ok k) (hl:zs.length≤1048576):
  Calls Tryz.prog 158 #[.pointer (some ⟨b,0,none⟩),.iface 31 (.agg #[.int .i64 x.1.f0,.slice A x.1.f1.length c])] w fun e w'=>∃v',e=.returned (.tuple #[])∧AgB w' b vR v'∧(kP f).R 31 w' w0.heap.size ok v' (zs++[x])∧Below w0.heap.size w0 w'∧Kept w w' (fun k=>k=b∨some k=v.ownBlock)∧(v'.ownBlock=v.ownBlock∨∃q,v'.ownBlock=some q∧w.heap.size≤q):=by
 obtain ⟨AL,cL,rfl⟩:=Kd.R_slice h;have q0:=(blk_cell hb 0).trans rfl;have q1:=(blk_cell hb 1).trans rfl;simp only [List.getElem?_toArray,List.getElem?_cons_zero,List.getElem?_cons_succ] at q0 q1;have HB:=a_ hb;have HH:=a_ h;have HX:=a_ hx;have HBW:=a_ hB;have n0:=World.new_ne w _ q0;have NE:=a_ (Kd.R_ne h hb (by decide:31≠68));have BA:=a_ (blk_alloc hb (.cells #[.int .i64 x.1.f0,.slice A x.1.f1.length c] 31));have r1:=(blk_cell BA.out 1).trans rfl;simp only [List.getElem?_toArray,List.getElem?_cons_zero,List.getElem?_cons_succ] at r1;have HOK:=a_ hok;have HN:=a_ hnew;have HL:=a_ hl;have HWB:=a_ hwb;have hu:=Tryz.underlying68;have hu1:=Tryz.underlying31;clear hb h hx hB hok hnew hl hwb;go_enter Tryz.func158,Tryz.ntmps158;go_wp2;go_region_law ((refine Kd.R_append_step (kP f) (w0:=w0) (W:=w.drew) w0.heap.size (by rfl) (.tmp 8) (.tmp 11) 38 31 (.agg #[.int .i64 0,.slice none 0 0]) 32 (by rfl) Tryz.underlying38 info31 rfl (show 0<2 by decide) (by decide) (.slice AL zs.length cL) zs x [.int .i64 x.1.f0,.slice A x.1.f1.length c] ok okp (by rfl) (by rfl) (agM_mk (Kd.R_drew HX.out)) HOK.out HN.out (Kd.R_drew HH.out) (below_drew1 HBW.out) HBW.out.size (by have:=HL.out;omega) ?_;intro v1 w1 ho hb1 hg1 hat1;obtain ⟨A1,c1,e1⟩:=Kd.R_slice ho;subst e1;have BW:=a_ (blk_grown (blk_drew HB.out) hg1 NE.out);have s1:=(blk_cell BW.out 1).trans rfl;have s2:=blk_frozen BW.out 1;simp only [List.getElem?_toArray,List.getElem?_cons_zero,List.getElem?_cons_succ] at s1;have HO1:=a_ ho;have HB1:=a_ hb1;have HG1:=a_ hg1;have HA1:=a_ hat1;clear ho hb1 hg1 hat1))
 all_goals (go_end0;exact ⟨.slice A1 (zs++[x]).length c1,rfl,mp_ BW (e:=by rw [List.length_append,List.length_singleton];rfl),Kd.R_mono (mf_ HO1 BW (ht:=agE)) (fun _ hk=>hk.1),below_set HB1.out HWB.out,Kept.setCell (S:=fun k=>k=b∨some k=(Value.slice AL zs.length cL).ownBlock) (p:=⟨b,1,none⟩) (Kept.of_grown HG1.out (Kept.drew (Kept.refl _ _)) (fun k e=>.inl (.inr e.symm))) (.inl (.inl rfl)) _,HA1.out⟩)
end Go.Proofs.YtejjlkbbnhpbdaaGreat.Pure
namespace Go.Proofs.YtejjlkbbnhpbdaaGreat.Pure
open Go.RowKit Go.Proofs.YtejjlkbbnhpbdaaGreat.P Go.Proofs.YtejjlkbbnhpbdaaGreatW.PrintWords Go.Proofs.YtejjlkbbnhpbdaaGreatW.PrintLast Go.Proofs.YtejjlkbbnhpbdaaGreatX
set_option linter.unusedVariables false
set_option linter.unusedSimpArgs false
namespace HeapT
section
variable {α : Type} (lt : α→α→Bool) (z : α)
def swp (xs:List α) (i j:Nat):List α:=(xs.set i (xs.getD j z)).set j (xs.getD i z)
def upH:Nat→List α→Nat→List α
 | 0,xs,_=>xs
 | n+1,xs,j=>if (j-1) / 2=j then xs else if lt (xs.getD j z) (xs.getD ((j-1) / 2) z)=true then upH n (swp z xs ((j-1) / 2) j) ((j-1) / 2) else xs
def dnJ (xs:List α) (i n:Nat):Nat:=if 2 * i+2<n∧lt (xs.getD (2 * i+2) z) (xs.getD (2 * i+1) z)=true then 2 * i+2 else 2 * i+1
def dnH:Nat→List α→Nat→Nat→List α
 | 0,xs,_,_=>xs
 | m+1,xs,i,n=>if n≤2 * i+1 then xs else if lt (xs.getD (dnJ lt z xs i n) z) (xs.getD i z)=true then dnH m (swp z xs i (dnJ lt z xs i n)) (dnJ lt z xs i n) n else xs
def pushH (xs:List α) (x : α):List α:=upH lt z (xs.length+1) (xs++[x]) xs.length
def popH (xs:List α):List α:=dnH lt z xs.length (swp z xs 0 (xs.length-1)) 0 (xs.length-1)
theorem swp_length (xs:List α) (i j:Nat):(swp z xs i j).length=xs.length:=by simp [swp]
theorem swp_get (xs:List α) (i j k:Nat) (hi:i<xs.length) (hj:j<xs.length):(swp z xs i j).getD k z=if k=j then xs.getD i z else if k=i then xs.getD j z else xs.getD k z:=by
 unfold swp
 simp only [List.getD_eq_getElem?_getD,List.getElem?_set,List.length_set];by_cases h1:k=j
 ·subst h1;simp [hj]
 ·by_cases h2:k=i
  ·subst h2;simp [h1,Ne.symm h1,hi]
  ·simp [h1,h2,Ne.symm h1,Ne.symm h2]
theorem swp_perm (xs:List α) (i j:Nat) (hi:i<xs.length) (hj:j<xs.length):(swp z xs i j).Perm xs:=by
 have h:=Array.swap_perm (xs:=xs.toArray) (i:=i) (j:=j) (by simpa using hi) (by simpa using hj)
 have e:(xs.toArray.swap i j (by simpa using hi) (by simpa using hj)).toList=swp z xs i j:=by
  simp [swp,List.getD_eq_getElem?_getD,hi,hj]
 have h2:=Array.perm_iff_toList_perm.1 h;rw [e] at h2;exact h2
theorem upH_length:∀(n:Nat) (xs:List α) (j:Nat),(upH lt z n xs j).length=xs.length
 | 0,xs,j=>rfl
 | n+1,xs,j=>by
  unfold upH
  split
  ·rfl
  ·split
   ·rw [upH_length n,swp_length]
   ·rfl
theorem upH_perm:∀(n:Nat) (xs:List α) (j:Nat),j<xs.length→(upH lt z n xs j).Perm xs
 | 0,xs,j,_=>List.Perm.refl _
 | n+1,xs,j,h=>by
  unfold upH
  split
  ·exact List.Perm.refl _
  ·split
   ·exact (upH_perm n _ _ (by rw [swp_length];omega)).trans (swp_perm z xs _ _ (by omega) h)
   ·exact List.Perm.refl _
theorem dnJ_le (xs:List α) (i n:Nat) (h:¬n≤2 * i+1):i<dnJ lt z xs i n∧dnJ lt z xs i n<n∧(dnJ lt z xs i n-1) / 2=i:=by
 unfold dnJ
 split<;>omega
theorem dnH_length:∀(m:Nat) (xs:List α) (i n:Nat),(dnH lt z m xs i n).length=xs.length
 | 0,xs,i,n=>rfl
 | m+1,xs,i,n=>by
  unfold dnH
  split
  ·rfl
  ·split
   ·rw [dnH_length m,swp_length]
   ·rfl
theorem dnH_perm:∀(m:Nat) (xs:List α) (i n:Nat),i<xs.length→n≤xs.length→(dnH lt z m xs i n).Perm xs
 | 0,xs,i,n,_,_=>List.Perm.refl _
 | m+1,xs,i,n,h,hn=>by
  unfold dnH
  split
  ·exact List.Perm.refl _
  ·rename_i hc
   have hj:=dnJ_le lt z xs i n hc;split
   ·exact (dnH_perm m _ _ _ (by rw [swp_length];omega) (by rw [swp_length];omega)).trans (swp_perm z xs _ _ h (by omega))
   ·exact List.Perm.refl _
theorem dnH_far:∀(m:Nat) (xs:List α) (i n k:Nat),i<n→n≤xs.length→n≤k→(dnH lt z m xs i n).getD k z=xs.getD k z
 | 0,xs,i,n,k,_,_,_=>rfl
 | m+1,xs,i,n,k,h,hn,hk=>by
  unfold dnH
  split
  ·rfl
  ·rename_i hc
   have hj:=dnJ_le lt z xs i n hc;split
   ·rw [dnH_far m _ _ _ _ (by omega) (by rw [swp_length];omega) hk,swp_get z xs _ _ _ (by omega) (by omega),if_neg (by omega),if_neg (by omega)]
   ·rfl
def Hp (xs:List α) (n:Nat):Prop:=∀i,0<i→i<n→lt (xs.getD i z) (xs.getD ((i-1) / 2) z)=false
structure HOrd:Prop where
 asym:∀a b,lt a b=true→lt b a=false
 tr:∀a b c,lt a b=true→lt b c=true→lt a c=true
 ntr:∀a b c,lt b a=false→lt c b=false→lt c a=false
variable {lt z}
theorem Hp.root {xs:List α} {n:Nat} (O:HOrd lt) (h:Hp lt z xs n):∀i,i<n→lt (xs.getD i z) (xs.getD 0 z)=false:=by
 intro i;induction i using Nat.strongRecOn with
 | _ i ih=>
  intro hi;by_cases h0:i=0
  ·subst h0;cases hb:lt (xs.getD 0 z) (xs.getD 0 z) with
   | false=>rfl
   | true=>have:=O.asym _ _ hb;rw [hb] at this;exact this
  ·exact O.ntr _ _ _ (ih ((i-1) / 2) (by omega) (by omega)) (h i (by omega) hi)
theorem upH_heap (O:HOrd lt):∀(n:Nat) (xs:List α) (j:Nat),j<xs.length→j<n→
  (∀i,0<i→i<xs.length→i≠j→lt (xs.getD i z) (xs.getD ((i-1) / 2) z)=false)→
  (∀i,0<i→i<xs.length→(i-1) / 2=j→0<j→lt (xs.getD i z) (xs.getD ((j-1) / 2) z)=false)→Hp lt z (upH lt z n xs j) xs.length
 | 0,xs,j,_,hn,_,_=>by omega
 | n+1,xs,j,hj,hn,h1,h2=>by
  unfold upH
  split
  ·rename_i hc
   have:j=0:=by omega
   subst this;intro i h0 hi;exact h1 i h0 hi (by omega)
  ·rename_i hc
   split
   ·rename_i hl
    have hp:(j-1) / 2<xs.length:=by omega
    have hL:(swp z xs ((j-1) / 2) j).length=xs.length:=swp_length z xs _ _
    have G:=fun k=>swp_get z xs ((j-1) / 2) j k hp hj
    have:=upH_heap O n (swp z xs ((j-1) / 2) j) ((j-1) / 2) (by omega) (by omega) (by
     intro i h0 hi hne;rw [hL] at hi;rw [G,G];by_cases e1:i=j
     ·subst e1;rw [if_pos rfl,if_neg (by omega),if_pos rfl];exact O.asym _ _ hl
     ·rw [if_neg e1,if_neg hne];by_cases e2:(i-1) / 2=j
      ·rw [if_pos e2];exact h2 i h0 hi e2 (by omega)
      ·rw [if_neg e2];by_cases e3:(i-1) / 2=(j-1) / 2
       ·rw [if_pos e3];have h3:=h1 i h0 hi e1;rw [e3] at h3;cases hb:lt (xs.getD i z) (xs.getD j z) with
        | false=>rfl
        | true=>rw [O.tr _ _ _ hb hl] at h3;exact h3
       ·rw [if_neg e3];exact h1 i h0 hi e1) (by
     intro i h0 hi hpi hpos;rw [hL] at hi;rw [G,G];have hpp:=h1 ((j-1) / 2) hpos hp (by omega);rw [if_neg (show ¬((j-1) / 2-1) / 2=j by omega),if_neg (show ¬((j-1) / 2-1) / 2=(j-1) / 2 by omega)];by_cases e1:i=j
     ·subst e1;rw [if_pos rfl];exact hpp
     ·rw [if_neg e1,if_neg (by omega)];have h3:=h1 i h0 hi e1;rw [hpi] at h3;exact O.ntr _ _ _ hpp h3)
    rw [hL] at this;exact this
   ·rename_i hl
    intro i h0 hi;by_cases e1:i=j
    ·subst e1;exact Bool.eq_false_iff.2 hl
    ·exact h1 i h0 hi e1
theorem dnJ_min (O:HOrd lt) (xs:List α) (i n c:Nat) (h:¬n≤2 * i+1) (h0:0<c) (hc:c<n) (hp:(c-1) / 2=i):lt (xs.getD c z) (xs.getD (dnJ lt z xs i n) z)=false:=by
 have irr:∀a,lt a a=false:=fun a=>by
  cases hb:lt a a with
  | false=>rfl
  | true=>have:=O.asym _ _ hb;rw [hb] at this;exact this
 unfold dnJ
 split
 ·rename_i hq
  rcases (by omega:c=2 * i+1∨c=2 * i+2) with rfl|rfl
  ·exact O.asym _ _ hq.2
  ·exact irr _
 ·rename_i hq
  rcases (by omega:c=2 * i+1∨c=2 * i+2) with rfl|rfl
  ·exact irr _
  ·cases hb:lt (xs.getD (2 * i+2) z) (xs.getD (2 * i+1) z) with
   | false=>rfl
   | true=>exact absurd ⟨hc,hb⟩ hq
theorem dnH_heap (O:HOrd lt):∀(m:Nat) (xs:List α) (i n:Nat),n≤xs.length→n-i≤m→
  (∀c,0<c→c<n→(c-1) / 2≠i→lt (xs.getD c z) (xs.getD ((c-1) / 2) z)=false)→
  (∀c,0<c→c<n→(c-1) / 2=i→0<i→lt (xs.getD c z) (xs.getD ((i-1) / 2) z)=false)→Hp lt z (dnH lt z m xs i n) n
 | 0,xs,i,n,hn,hm,h1,h2=>by
  unfold dnH
  intro c h0 hc;exact h1 c h0 hc (by omega)
 | m+1,xs,i,n,hn,hm,h1,h2=>by
  unfold dnH
  split
  ·intro c h0 hc;exact h1 c h0 hc (by omega)
  ·rename_i hc
   have hj:=dnJ_le lt z xs i n hc;have hmin:=dnJ_min (z:=z) O xs i n;generalize dnJ lt z xs i n=j at *;split
   ·rename_i hl
    have hL:(swp z xs i j).length=xs.length:=swp_length z xs _ _
    have G:=fun k=>swp_get z xs i j k (by omega) (by omega)
    refine dnH_heap O m (swp z xs i j) j n (by omega) (by omega) (fun c h0 hcn hne=>?_) (fun c h0 hcn hpc hpos=>?_)
    ·rw [G,G];by_cases e1:c=j
     ·subst e1;rw [if_pos rfl,hj.2.2,if_neg (by omega),if_pos rfl];exact O.asym _ _ hl
     ·rw [if_neg e1,if_neg hne];by_cases e2:c=i
      ·subst e2;rw [if_pos rfl,if_neg (by omega)];exact h2 j (by omega) hj.2.1 hj.2.2 h0
      ·rw [if_neg e2];by_cases e3:(c-1) / 2=i
       ·rw [if_pos e3];exact hmin c hc h0 hcn e3
       ·rw [if_neg e3];exact h1 c h0 hcn e3
    ·rw [G,G,hj.2.2,if_neg (show ¬c=j by omega),if_neg (show ¬c=i by omega),if_neg (show ¬i=j by omega),if_pos rfl];have:=h1 c h0 hcn (by omega)
     rw [hpc] at this;exact this
   ·rename_i hl
    intro c h0 hcn;by_cases e1:(c-1) / 2=i
    ·rw [e1];exact O.ntr _ _ _ (Bool.eq_false_iff.2 hl) (hmin c hc h0 hcn e1)
    ·exact h1 c h0 hcn e1
theorem getD_app (xs:List α) (x : α) (i:Nat) (h:i<xs.length):(xs++[x]).getD i z=xs.getD i z:=by
 simp [List.getD_eq_getElem?_getD,List.getElem?_append_left h]
theorem pushH_length (xs:List α) (x : α):(pushH lt z xs x).length=xs.length+1:=by
 unfold pushH;rw [upH_length];simp
theorem pushH_perm (xs:List α) (x : α):(pushH lt z xs x).Perm (xs++[x]):=upH_perm lt z _ _ _ (by simp)
theorem pushH_heap (O:HOrd lt) (xs:List α) (x : α) (h:Hp lt z xs xs.length):Hp lt z (pushH lt z xs x) (xs.length+1):=by
 have hl:(xs++[x]).length=xs.length+1:=by simp
 have:=upH_heap (z:=z) O (xs.length+1) (xs++[x]) xs.length (by omega) (by omega) (fun i h0 hi hne=>by
  rw [getD_app xs x i (by omega),getD_app xs x _ (by omega)];exact h i h0 (by omega)) (fun i h0 hi hp h1=>by omega)
 rw [hl] at this;exact this
theorem popH_length (xs:List α):(popH lt z xs).length=xs.length:=by
 unfold popH;rw [dnH_length,swp_length]
theorem popH_last (xs:List α) (h:0<xs.length):(popH lt z xs).getD (xs.length-1) z=xs.getD 0 z:=by
 unfold popH
 by_cases h1:xs.length=1
 ·have e:xs.length-1=0:=by omega
  rw [e,h1];unfold dnH
  rw [if_pos (by omega),swp_get z xs 0 0 0 h h];simp
 ·rw [dnH_far lt z _ _ _ _ _ (by omega) (by rw [swp_length];omega) (Nat.le_refl _),swp_get z xs _ _ _ h (by omega)];simp
theorem popH_perm (xs:List α) (h:0<xs.length):(popH lt z xs).Perm xs:=
 (dnH_perm lt z _ _ _ _ (by rw [swp_length];omega) (by rw [swp_length];omega)).trans (swp_perm z xs _ _ h (by omega))
theorem popH_heap (O:HOrd lt) (xs:List α) (h:Hp lt z xs xs.length):Hp lt z (popH lt z xs) (xs.length-1):=by
 by_cases h0:xs.length=0
 ·intro i _ hi;omega
 unfold popH
 refine dnH_heap O _ _ _ _ (by rw [swp_length];omega) (by omega) (fun c hc hn hne=>?_) (fun c hc hn hp h0=>by omega);rw [swp_get z xs _ _ _ (by omega) (by omega),swp_get z xs _ _ _ (by omega) (by omega),if_neg (by omega),if_neg (by omega),if_neg (by omega),if_neg hne];exact h c hc (by omega)
theorem getD_take (xs:List α) (n i:Nat) (h:i<n):(xs.take n).getD i z=xs.getD i z:=by
 simp [List.getD_eq_getElem?_getD,h]
theorem Hp.take {xs:List α} {n:Nat} (h:Hp lt z xs n):Hp lt z (xs.take n) n:=fun i h0 hi=>by
 rw [getD_take xs n i hi,getD_take xs n _ (by omega)];exact h i h0 hi
def drain (lt : α→α→Bool) (z : α):Nat→List α→List α
 | 0,_=>[]
 | m+1,xs=>xs.getD 0 z::drain lt z m ((popH lt z xs).take (xs.length-1))
theorem split_last (ys:List α) (n:Nat) (h:ys.length=n+1):ys=ys.take n++[ys.getD n z]:=by
 have e:ys.getD n z=ys[n]:=by simp [List.getD_eq_getElem?_getD,h]
 rw [e,List.take_append_getElem];rw [List.take_of_length_le (by omega)]
theorem pop_split (xs:List α) (h:0<xs.length):(xs.getD 0 z::(popH lt z xs).take (xs.length-1)).Perm xs:=by
 have h1:=split_last (z:=z) (popH lt z xs) (xs.length-1) (by rw [popH_length];omega);rw [popH_last xs h] at h1;have h2:=popH_perm (lt:=lt) (z:=z) xs h;rw [h1] at h2;exact (List.perm_append_comm (l₁:=[xs.getD 0 z])).trans h2
theorem drain_perm:∀(m:Nat) (xs:List α),xs.length=m→(drain lt z m xs).Perm xs
 | 0,xs,h=>by
  have:xs=[]:=by simpa using h
  subst this;exact List.Perm.refl _
 | m+1,xs,h=>by
  unfold drain
  exact ((drain_perm m _ (by rw [List.length_take,popH_length];omega)).cons _).trans (pop_split xs (by omega))
theorem drain_sorted (O:HOrd lt):∀(m:Nat) (xs:List α),xs.length=m→Hp lt z xs xs.length→(drain lt z m xs).Pairwise (fun a b=>lt b a=false)
 | 0,xs,h,_=>List.Pairwise.nil
 | m+1,xs,h,hh=>by
  unfold drain
  have hl:((popH lt z xs).take (xs.length-1)).length=m:=by rw [List.length_take,popH_length];omega
  refine List.Pairwise.cons (fun b hb=>?_) (drain_sorted O m _ hl (by rw [hl];have:=(popH_heap O xs hh).take;rwa [show xs.length-1=m by omega] at this ⊢));have hb2:=(drain_perm (lt:=lt) (z:=z) m _ hl).mem_iff.1 hb;have hb3:=(pop_split (lt:=lt) (z:=z) xs (by omega)).mem_iff.1 (List.mem_cons_of_mem _ hb2);obtain ⟨i,hi,rfl⟩:=List.mem_iff_getElem.1 hb3;have:=Hp.root O hh i hi
  rwa [show xs.getD i z=xs[i] by simp [List.getD_eq_getElem?_getD,hi]] at this
end
end HeapT
end Go.Proofs.YtejjlkbbnhpbdaaGreat.Pure
namespace Go.Proofs.YtejjlkbbnhpbdaaGreat.Pure
open Go.RowKit Go.Proofs.YtejjlkbbnhpbdaaGreat.P Go.Proofs.YtejjlkbbnhpbdaaGreatW.PrintWords Go.Proofs.YtejjlkbbnhpbdaaGreatW.PrintLast Go.Proofs.YtejjlkbbnhpbdaaGreatX
set_option linter.unusedVariables false
set_option linter.unusedSimpArgs false
open HeapT
theorem set_some {w:World} {p q:Addr} {x v:Value} (h:w.cell? q=some v):∃v',(w.setCell p x).cell? q=some v':=by
 by_cases e:p=q
 ·subst e;exact ⟨x,World.cell?_setCell_same w p x h⟩
 ·exact ⟨v,(World.cell?_setCell_other w p q x e).trans h⟩
theorem M_grown {α : Type} {d:Kd α} {w w1:World} {base:Nat} {ok:Nat→Prop} {x : α} {cs:List Value} {row:Option Nat} (h:d.M w base ok x cs) (hg:w.grownBy w1 row) (hok:∀k,ok k→some k≠row):d.M w1 base ok x cs:=
 d.M_mono (fun _ hk=>hk.1) (d.M_move (fun k hk=>hg.block k hk.2.2.1 (hok k hk.1)) (d.M_bound h))
set_option maxHeartbeats 4000000 in
set_option maxRecDepth 100000 in
theorem ag_Swap {f:Nat→Nat} {base:Nat} {ok:Nat→Prop} {vR v:Value} {zs:List Pr} (b:Nat) (i j:Nat) (w:World)
  (hb:AgB w b vR v) (h:(kP f).R 31 w base ok v zs) (hi:i<zs.length) (hj:j<zs.length):
  Calls Tryz.prog 159 #[.pointer (some ⟨b,0,none⟩),.int .i64 (i:Int),.int .i64 (j:Int)] w fun e w'=>e=.returned (.tuple #[])∧AgB w' b vR v∧(kP f).R 31 w' base ok v (swp zP zs i j)∧w.grownBy w' v.ownBlock:=by
 obtain ⟨g,cap,rfl,_,_,_⟩:=Kd.R_form h (by omega);obtain ⟨ci,hli,hM,hcc,hfc⟩:=Kd.R_elem h zP (i:Int) (by omega) (by omega);obtain ⟨A1,c1,rfl,l1,C1,R1⟩:=agM hM;obtain ⟨cj,hlj,hM2,hcd,hfd⟩:=Kd.R_elem h zP (j:Int) (by omega) (by omega);obtain ⟨A2,c2,rfl,l2,C2,R2⟩:=agM hM2;have a0:=hcc 0 _ rfl;have a1:=hcc 1 _ rfl;have b0:=hcd 0 _ rfl;have b1:=hcd 1 _ rfl;have fa0:=hfc 0;have fa1:=hfc 1;have fb0:=hfd 0;have fb1:=hfd 1;simp only [Int.toNat_natCast,show (kP f).sz=2 from rfl,Nat.add_zero] at a0 a1 b0 b1 fa0 fa1 fb0 fb1;simp only [Int.toNat_natCast] at hM hM2 hcc hcd hli;have q0:=(blk_cell hb 0).trans rfl;have q1:=(blk_cell hb 1).trans rfl;simp only [List.getElem?_toArray,List.getElem?_cons_zero,List.getElem?_cons_succ] at q0 q1;have HH:=a_ h;have HB:=a_ hb;have HM1:=a_ hM;have HM2:=a_ hM2;have HC1:=a_ hcc;have HC2:=a_ hcd;have z0:(0:Int)≤(i:Int):=by omega
 have z1:(i:Int)<(zs.length:Int):=by omega
 have z2:(0:Int)≤(j:Int):=by omega
 have z3:(j:Int)<(zs.length:Int):=by omega
 have hu:=Tryz.underlying68;have hu1:=Tryz.underlying31;clear hM hcc hM2 hcd hb h C1 C2 l1 l2 hfc hfd hli hlj R1 R2 hi hj;generalize ex:zs.getD i zP=x at *;generalize ey:zs.getD j zP=y at *;have EX:=a_ ex;have EY:=a_ ey;clear ex ey;obtain ⟨y0,g0⟩:=set_some (p:=⟨g,i*2,none⟩) (x:=.int .i64 y.1.f0) b0;obtain ⟨y1,g1⟩:=set_some (w:=w.setCell ⟨g,i*2,none⟩ (.int .i64 y.1.f0)) (p:=⟨g,i*2+1,none⟩) (x:=.slice A2 y.1.f1.length c2) (q:=⟨g,j*2+1,none⟩) (v:=.slice A2 y.1.f1.length c2) (by go_simp);go_enter Tryz.func159,Tryz.ntmps159;go_region
 all_goals go_end0
 have P1:=Kd.R_seg HH.out (i:Int) z0 z1 (seg:=[.int .i64 y.1.f0,.slice A2 y.1.f1.length c2]) (j:=0) (c:=[.int .i64 x.1.f0,.slice A1 x.1.f1.length c1]) rfl HC1.out (show 0+2≤2 from Nat.le_refl _) (x':=y) HM2.out (fun _ hk=>hk);obtain ⟨cj,hlj,_,hcj,_⟩:=Kd.R_elem P1.1 zP (j:Int) z2 z3;have P2:=Kd.R_seg P1.1 (j:Int) z2 z3 (seg:=[.int .i64 x.1.f0,.slice A1 x.1.f1.length c1]) (j:=0) hlj hcj (show 0+2≤2 from Nat.le_refl _) (x':=x) (by rw [List.drop_eq_nil_of_le (show cj.length≤0 + [Value.int .i64 x.1.f0,.slice A1 x.1.f1.length c1].length from Nat.le_of_eq hlj)];exact M_grown HM1.out P1.2 (fun k hk e=>hk.2 (Option.some.inj e))) (fun _ hk=>hk);have hs:(zs.set (i:Int).toNat y).set (j:Int).toNat x=swp zP zs i j:=by unfold swp;rw [EX.out,EY.out,Int.toNat_natCast,Int.toNat_natCast]
 rw [hs] at P2;have hbg:b≠g:=fun e=>by subst e;exact absurd rfl (Kd.R_ne HH.out HB.out (by decide))
 refine ⟨rfl,?_,Kd.R_drew P2.1,(P1.2.trans P2.2).trans (grown_of_below (below_drew1 (Below.refl _ _)) _)⟩;exact blk_drew (blk_grown (blk_grown HB.out P1.2 (by simpa using hbg)) P2.2 (by simpa using hbg))
end Go.Proofs.YtejjlkbbnhpbdaaGreat.Pure
namespace Go.Proofs.YtejjlkbbnhpbdaaGreat.Pure
open Go.RowKit Go.Proofs.YtejjlkbbnhpbdaaGreat.P Go.Proofs.YtejjlkbbnhpbdaaGreatW.PrintWords Go.Proofs.YtejjlkbbnhpbdaaGreatW.PrintLast Go.Proofs.YtejjlkbbnhpbdaaGreatX
set_option linter.unusedVariables false
set_option linter.unusedSimpArgs false
set_option maxHeartbeats 4000000 in
set_option maxRecDepth 100000 in
theorem ag_Pop {f:Nat→Nat} {base:Nat} {ok:Nat→Prop} {vR v:Value} {zs:List Pr} (b:Nat) (w0 w:World) (hB:Below w0.heap.size w0 w) (hwb:w0.heap.size≤b)
  (hb:AgB w b vR v) (h:(kP f).R 31 w base ok v zs) (hn:0<zs.length) (hm:zs.length≤9223372036854775807):
  Calls Tryz.prog 157 #[.pointer (some ⟨b,0,none⟩)] w fun e w'=>∃A c v',e=.returned (.iface 31 (.agg #[.int .i64 (zs.getD (zs.length-1) zP).1.f0,.slice A (zs.getD (zs.length-1) zP).1.f1.length c]))∧AgB w' b vR v'∧(kP f).R 31 w' base ok v' (zs.take (zs.length-1))∧v'.ownBlock=v.ownBlock∧(Kd.int .i64).R 3 w' base (fun k=>(ok k∧some k≠v.ownBlock)∧f k=(zs.getD (zs.length-1) zP).2) (.slice A (zs.getD (zs.length-1) zP).1.f1.length c) (zs.getD (zs.length-1) zP).1.f1∧Below w0.heap.size w0 w'∧Kept w w' (fun k=>k=b):=by
 have HBW:=a_ hB;have HWB:=a_ hwb;clear hB hwb;obtain ⟨g,cap,rfl,_,_,_⟩:=Kd.R_form h hn;obtain ⟨m,hm1⟩:∃m,zs.length=m+1:=⟨zs.length-1,by omega⟩;rw [hm1] at h hb hm ⊢;simp only [Nat.add_sub_cancel];obtain ⟨ci,hli,hM,hcc,hfc⟩:=Kd.R_elem h zP (m:Int) (by omega) (by omega);obtain ⟨A1,c1,rfl,l1,C1,R1⟩:=agM hM;have a0:=hcc 0 _ rfl;have a1:=hcc 1 _ rfl;simp only [Int.toNat_natCast,show (kP f).sz=2 from rfl,Nat.add_zero] at a0 a1;simp only [Int.toNat_natCast] at R1;have q0:=(blk_cell hb 0).trans rfl;have q1:=(blk_cell hb 1).trans rfl;have qf:=blk_frozen hb 1;simp only [List.getElem?_toArray,List.getElem?_cons_zero,List.getElem?_cons_succ] at q0 q1;have hcap:=(Kd.R_reads' h).2.1;have HT:=a_ (Kd.R_take h (m:=m) (by omega));have HB:=a_ hb;have HR1:=a_ R1;have n0:=World.new_ne w _ q0;have n1:=World.new_ne w _ q1;have n2:=World.new_ne w _ a0;have n3:=World.new_ne w _ a1;have z0:(0:Int)≤(m:Int):=by omega
 have z1:(m:Int)<(m:Int)+1:=by omega
 have z2:(m:Int)≤(cap:Int):=by omega
 have z3:IntKind.i64.wrap (m:Int)=(m:Int):=IntWalk.i64_in _ (by omega)
 have hu:=Tryz.underlying68;have hu1:=Tryz.underlying31;clear hM hcc hb h C1 l1 hfc hli R1 hm1 hcap;generalize zs.getD m zP=x at *;have BA:=a_ (blk_alloc HB.out (.cells #[.int .i64 x.1.f0,.slice A1 x.1.f1.length c1] 31));have qg:=blk_frozen BA.out 1;go_enter Tryz.func157,Tryz.ntmps157;go_wp2;go_region_held3 (fun w'=>w'.cell? ⟨b,1,none⟩=some (.slice (some ⟨g,0,none⟩) (m+1) cap)∧w'.cell? ⟨g,m*2,none⟩=some (.int .i64 x.1.f0)∧w'.cell? ⟨g,m*2+1,none⟩=some (.slice A1 x.1.f1.length c1)) (go_keep) (fail)
 go_wp2;go_region
 go_wp2;go_ret;refine ⟨A1,c1,.slice (some ⟨g,0,none⟩) m cap,rfl,mp_ HB,Kd.R_mono (mf_ HT HB (ht:=agE)) (fun _ hk=>hk.1),rfl,Kd.R_mono (mf_ HR1 HB) (fun k hk=>⟨⟨hk.1.1.1,fun e=>hk.1.1.2 (Option.some.inj e)⟩,hk.1.2⟩),mb_ HBW,?_⟩;exact Kept.drew (Kept.drew (Kept.setCell (S:=fun k=>k=b) (p:=⟨b,1,none⟩) (Kept.alloc (Kept.refl _ _) _) (.inl rfl) _))
end Go.Proofs.YtejjlkbbnhpbdaaGreat.Pure
namespace Go.Proofs.YtejjlkbbnhpbdaaGreat.Pure
open Go.RowKit Go.Proofs.YtejjlkbbnhpbdaaGreat.P Go.Proofs.YtejjlkbbnhpbdaaGreatW.PrintWords Go.Proofs.YtejjlkbbnhpbdaaGreatW.PrintLast Go.Proofs.YtejjlkbbnhpbdaaGreatX
set_option linter.unusedVariables false
set_option linter.unusedSimpArgs false
open HeapT
def LtB (k:Nat) (rs:List S58) (lt:Pr→Pr→Bool) (zs:List Pr):Prop:=∀x y,x∈zs→y∈zs→impl_before.f k rs x.1.f0 x.1.f1 y.1.f0 y.1.f1=some (lt x y)
theorem LtB.perm {k:Nat} {rs:List S58} {lt:Pr→Pr→Bool} {zs ys:List Pr} (h:LtB k rs lt zs) (hp:ys.Perm zs):LtB k rs lt ys:=fun x y hx hy=>h x y (hp.mem_iff.1 hx) (hp.mem_iff.1 hy)
theorem getD_inP {zs:List Pr} {i:Nat} (h:i<zs.length):zs.getD i zP∈zs:=by
 rw [List.getD_eq_getElem?_getD,List.getElem?_eq_getElem h];exact List.getElem_mem h
theorem ag_LessI {f:Nat→Nat} {base:Nat} {ok:Nat→Prop} {AR:Option Addr} {cR:Nat} {rs:List S58} {v:Value} {zs:List Pr} (k b:Nat) (i j:Nat) (a c:Int) (ha:a=i) (hc:c=j) (r:Bool) (w:World) (hC:Kd.C k58 w AR rs.length rs) (hcR:rs.length≤cR)
  (hb:AgB w b (.slice AR rs.length cR) v) (h:(kP f).R 31 w base ok v zs) (hi:i<zs.length) (hj:j<zs.length) (hr:impl_before.f k rs (zs.getD i zP).1.f0 (zs.getD i zP).1.f1 (zs.getD j zP).1.f0 (zs.getD j zP).1.f1=some r):
  Calls Tryz.prog 156 #[.pointer (some ⟨b,0,none⟩),.int .i64 a,.int .i64 c] w fun e w'=>e=.returned (.bool r)∧Below w.heap.size w w':=by
 subst ha;subst hc;exact ag_Less k b i j r w hC hcR hb h hi hj hr
theorem ag_SwapI {f:Nat→Nat} {base:Nat} {ok:Nat→Prop} {vR v:Value} {zs:List Pr} (b:Nat) (i j:Nat) (a c:Int) (ha:a=i) (hc:c=j) (w:World)
  (hb:AgB w b vR v) (h:(kP f).R 31 w base ok v zs) (hi:i<zs.length) (hj:j<zs.length):
  Calls Tryz.prog 159 #[.pointer (some ⟨b,0,none⟩),.int .i64 a,.int .i64 c] w fun e w'=>e=.returned (.tuple #[])∧AgB w' b vR v∧(kP f).R 31 w' base ok v (swp zP zs i j)∧w.grownBy w' v.ownBlock:=by
 subst ha;subst hc;exact ag_Swap b i j w hb h hi hj
theorem ag_mLess (a:Addr) (w:World):(method 304 66 (.pointer (some a)) "Less").run Tryz.prog w=.ok (156,.pointer (some a)) w:=by kernel_rfl
theorem ag_mSwap (a:Addr) (w:World):(method 304 66 (.pointer (some a)) "Swap").run Tryz.prog w=.ok (159,.pointer (some a)) w:=by kernel_rfl
theorem ag_mLen (a:Addr) (w:World):(method 304 66 (.pointer (some a)) "Len").run Tryz.prog w=.ok (38,.pointer (some a)) w:=by kernel_rfl
theorem ag_mPush (a:Addr) (w:World):(method 304 66 (.pointer (some a)) "Push").run Tryz.prog w=.ok (158,.pointer (some a)) w:=by kernel_rfl
theorem ag_mPop (a:Addr) (w:World):(method 304 66 (.pointer (some a)) "Pop").run Tryz.prog w=.ok (157,.pointer (some a)) w:=by kernel_rfl
attribute [local go_sem] ag_mLess ag_mSwap ag_mLen ag_mPush ag_mPop
set_option maxHeartbeats 4000000 in
set_option maxRecDepth 100000 in
theorem hp_up {f:Nat→Nat} {ok:Nat→Prop} {AR:Option Addr} {cR:Nat} {rs:List S58} {v:Value} {zs:List Pr} {lt:Pr→Pr→Bool} (k b j:Nat) (w0 w:World) (hC:Kd.C k58 w0 AR rs.length rs) (hcR:rs.length≤cR)
  (hB:Below w0.heap.size w0 w) (hb:AgB w b (.slice AR rs.length cR) v) (h:(kP f).R 31 w w0.heap.size ok v zs) (hj:j<zs.length) (hlt:LtB k rs lt zs) (hl:zs.length≤1048576) (r:List Pr) (hr:upH lt zP (j+1) zs j=r):
  Calls Tryz.prog 63 #[.iface 66 (.pointer (some ⟨b,0,none⟩)),.int .i64 (j:Int)] w fun e w'=>e=.returned (.tuple #[])∧AgB w' b (.slice AR rs.length cR) v∧(kP f).R 31 w' w0.heap.size ok v r∧Below w0.heap.size w0 w'∧w.grownBy w' v.ownBlock:=by
 have HC:=a_ hC;have HCR:=a_ hcR;have HB:=a_ hB;have HBK:=a_ hb;have HR:=a_ h;have HLT:=a_ hlt;have HL:=a_ hl;have hvb:∀q,v.ownBlock=some q→w0.heap.size≤q:=Kd.R_base h
 have HV:=a_ hvb;have HG:=a_ (grown_of_below (Below.refl _ w) v.ownBlock);have HE:=a_ hr;clear hC hcR hB hb h hlt hl hvb hr;go_enter Tryz.func63,Tryz.ntmps63;go_wp2;go_loopg [1] j (fun gg v1 wr=>∃(i m:Nat) (xs:List Pr),v1=.int .i64 (i:Int)∧i≤gg∧i<m∧i<xs.length∧xs.length=zs.length∧Aside0 (upH lt zP m xs i=r)∧Aside0 (xs.Perm zs)∧Aside0 (AgB wr b (.slice AR rs.length cR) v)∧Aside0 ((kP f).R 31 wr w0.heap.size ok v xs)∧Aside0 (Below w0.heap.size w0 wr)∧Aside0 (w.grownBy wr v.ownBlock))
 case atStart=>exact ⟨j,j+1,zs,rfl,Nat.le_refl _,Nat.lt_succ_self _,hj,rfl,HE,⟨List.Perm.refl _⟩,HBK,HR,HB,HG⟩
 case round=>
  obtain ⟨i,m,xs,rfl,hgg,him,hix,hxl,HE1,HP1,HBK1,HR1,HB1,HG1⟩:=hrel;clear hj;by_cases h0:i=0
  ·subst h0
   have e0:xs=r:=by
    have:=HE1.out
    cases m with
    | zero=>omega
    | succ m=>unfold upH at this;rw [if_pos (by omega)] at this;exact this
   have E0:=a_ e0;clear e0;go_wp2;go_end0
   exact ⟨rfl,HBK1.out,E0.out▸HR1.out,HB1.out,HG1.out⟩
  ·obtain ⟨q,rfl⟩:∃q,i=q+1:=⟨i-1,by omega⟩;obtain ⟨p,hp,hpq⟩:∃p:Nat,(q:Int) / 2=(p:Int)∧p=q / 2:=⟨q / 2,by omega,rfl⟩;have hq0:(0:Int)≤(q:Int):=by omega
   have hq1:(q:Int)≤1048576:=by have:=HL.out;omega
   have hne:((p:Int)==(q:Int)+1)=false:=by simp;omega
   have HPQ:=a_ hpq;have hpl:p<xs.length:=by omega
   have hpn:(q+1-1) / 2=p:=by omega
   have hbe:=HLT.out.perm HP1.out _ _ (getD_inP hix) (getD_inP hpl);obtain ⟨m,rfl⟩:∃m',m=m'+1:=⟨m-1,by omega⟩;have HX:=HE1.out;unfold upH at HX
   rw [hpn,if_neg (by omega)] at HX;have HLE:=a_ hbe;have HIX:=a_ hix;have HPL:=a_ hpl;have HX1:=a_ HX;clear hpq h0 hbe hix hpl HX;cases hL:lt (xs.getD (q+1) zP) (xs.getD p zP) with
   | false=>
    have HL1:=a_ hL;clear hL;go_wp2_with (first|(go_at_call 156;refine (ag_LessI k b (q+1) p _ _ (by omega) rfl false _ (Kd.C_below HC.out HB1.out) HCR.out HBK1.out HR1.out HIX.out HPL.out (HLE.out.trans (congrArg some HL1.out))).mono ?_;rintro e w1 ⟨rfl,hd⟩));go_end0
    have e0:xs=r:=by have:=HX1.out;rw [if_neg (by rw [HL1.out];decide)] at this;exact this
    exact ⟨rfl,blk_below HBK1.out hd,e0▸Kd.R_below HR1.out hd,below_step HB1.out hd,HG1.out.trans (grown_of_below hd _)⟩
   | true=>
    have HL1:=a_ hL;clear hL;go_wp2_with (first|(go_at_call 156;refine (ag_LessI k b (q+1) p _ _ (by omega) rfl true _ (Kd.C_below HC.out HB1.out) HCR.out HBK1.out HR1.out HIX.out HPL.out (HLE.out.trans (congrArg some HL1.out))).mono ?_;rintro e w1 ⟨rfl,hd⟩;have HBK2:=a_ (blk_below HBK1.out hd);have HR2:=a_ (Kd.R_below HR1.out hd);have HB2:=a_ (below_step HB1.out hd);have HG2:=a_ (HG1.out.trans (grown_of_below hd _));clear hd)|(go_at_call 159;refine (ag_SwapI b p (q+1) _ _ rfl (by omega) _ HBK2.out HR2.out HPL.out HIX.out).mono ?_;rintro e w2 ⟨rfl,hb3,hr3,hg3⟩;have HBK3:=a_ hb3;have HR3:=a_ hr3;have HG3:=a_ (HG2.out.trans hg3);have HB3:=a_ (pw_below_grown HB2.out _ HB2.out.size hg3 HV.out);clear hb3 hr3 hg3));go_roundg p
    case measure=>omega
    case rel=>exact ⟨p,m,swp zP xs p (q+1),rfl,Nat.le_refl _,by omega,by rw [swp_length];exact HPL.out,by rw [swp_length];exact hxl,⟨by have:=HX1.out;rw [if_pos HL1.out] at this;exact this⟩,⟨(swp_perm zP xs p (q+1) HPL.out HIX.out).trans HP1.out⟩,HBK3,HR3,HB3,HG3⟩
end Go.Proofs.YtejjlkbbnhpbdaaGreat.Pure
namespace Go.Proofs.YtejjlkbbnhpbdaaGreat.Pure
open Go.RowKit Go.Proofs.YtejjlkbbnhpbdaaGreat.P Go.Proofs.YtejjlkbbnhpbdaaGreatW.PrintWords Go.Proofs.YtejjlkbbnhpbdaaGreatW.PrintLast Go.Proofs.YtejjlkbbnhpbdaaGreatX
set_option linter.unusedVariables false
set_option linter.unusedSimpArgs false
open HeapT
attribute [local go_sem] ag_mLess ag_mSwap
set_option maxHeartbeats 8000000 in
set_option maxRecDepth 100000 in
theorem hp_down {f:Nat→Nat} {ok:Nat→Prop} {AR:Option Addr} {cR:Nat} {rs:List S58} {v:Value} {zs:List Pr} {lt:Pr→Pr→Bool} (k b i0 n:Nat) (w0 w:World) (hC:Kd.C k58 w0 AR rs.length rs) (hcR:rs.length≤cR)
  (hB:Below w0.heap.size w0 w) (hb:AgB w b (.slice AR rs.length cR) v) (h:(kP f).R 31 w w0.heap.size ok v zs) (hi:i0<zs.length) (hn:n≤zs.length) (hlt:LtB k rs lt zs) (hl:zs.length≤1048576) (m0:Nat) (hm:n-i0≤m0) (r:List Pr) (hr:dnH lt zP m0 zs i0 n=r):
  Calls Tryz.prog 64 #[.iface 66 (.pointer (some ⟨b,0,none⟩)),.int .i64 (i0:Int),.int .i64 (n:Int)] w fun e w'=>∃d,e=.returned (.bool d)∧AgB w' b (.slice AR rs.length cR) v∧(kP f).R 31 w' w0.heap.size ok v r∧Below w0.heap.size w0 w'∧w.grownBy w' v.ownBlock:=by
 have HC:=a_ hC;have HCR:=a_ hcR;have HB:=a_ hB;have HBK:=a_ hb;have HR:=a_ h;have HLT:=a_ hlt;have HL:=a_ hl;have HN:=a_ hn;have hvb:∀q,v.ownBlock=some q→w0.heap.size≤q:=Kd.R_base h
 have HV:=a_ hvb;have HG:=a_ (grown_of_below (Below.refl _ w) v.ownBlock);have HE:=a_ hr;have HI:=a_ hi;have HM:=a_ hm;have hn1:(n:Int)≤1048576:=by omega
 clear hC hcR hB hb h hlt hl hvb hr hn hi hm;go_enter Tryz.func64,Tryz.ntmps64;go_wp2;go_loopg [7] m0 (fun gg v7 wr=>∃(i m:Nat) (xs:List Pr),v7=.int .i64 (i:Int)∧m≤gg∧Aside0 (n-i≤m)∧i<xs.length∧xs.length=zs.length∧Aside0 (dnH lt zP m xs i n=r)∧Aside0 (xs.Perm zs)∧Aside0 (AgB wr b (.slice AR rs.length cR) v)∧Aside0 ((kP f).R 31 wr w0.heap.size ok v xs)∧Aside0 (Below w0.heap.size w0 wr)∧Aside0 (w.grownBy wr v.ownBlock))
 case atStart=>exact ⟨i0,m0,zs,rfl,Nat.le_refl _,HM,HI.out,rfl,HE,⟨List.Perm.refl _⟩,HBK,HR,HB,HG⟩
 case round=>
  obtain ⟨i,m,xs,rfl,hgg,HM1,hix,hxl,HE1,HP1,HBK1,HR1,HB1,HG1⟩:=hrel;have hi0:(0:Int)≤(i:Int):=by omega
  have hi1:(i:Int)≤1048576:=by have:=HL.out;omega
  by_cases h0:n≤2 * i+1
  ·have e0:xs=r:=by
    have:=HE1.out
    cases m with
    | zero=>exact this
    | succ m=>unfold dnH at this;rw [if_pos h0] at this;exact this
   have E0:=a_ e0;have q1:decide ((n:Int)≤2*(i:Int)+1)=true:=decide_eq_true (by omega)
   clear e0 h0;go_wp2;go_ret;exact ⟨_,rfl,HBK1.out,E0.out▸HR1.out,HB1.out,HG1.out⟩
  ·obtain ⟨m,rfl⟩:∃m',m=m'+1:=⟨m-1,by have:=HM1.out;omega⟩;have q1:decide ((n:Int)≤2*(i:Int)+1)=false:=decide_eq_false (by omega)
   have q2:decide (2*(i:Int)+1<0)=false:=decide_eq_false (by omega)
   have HX:=HE1.out;unfold dnH at HX
   rw [if_neg h0] at HX;have HIX:=a_ hix;have H0:=a_ h0;have HNL:=HN.out;by_cases h2:2 * i+2<n
   ·have q3:decide (2*(i:Int)+1+1<(n:Int))=true:=decide_eq_true (by omega)
    have q4:decide (2*(i:Int)+2<(n:Int))=true:=decide_eq_true (by omega)
    have HJ1:Aside0 (2 * i+1<xs.length):=⟨by omega⟩
    have HJ2:Aside0 (2 * i+2<xs.length):=⟨by omega⟩
    have HBE:=a_ (HLT.out.perm HP1.out _ _ (getD_inP HJ2.out) (getD_inP HJ1.out));cases hL:lt (xs.getD (2 * i+2) zP) (xs.getD (2 * i+1) zP) with
    | false=>
     have hJ:dnJ lt zP xs i n=2 * i+1:=by unfold dnJ;rw [if_neg (by rw [hL];simp)]
     have HL1:=a_ hL;rw [hJ] at HX;have HBF:=a_ (HLT.out.perm HP1.out _ _ (getD_inP HJ1.out) (getD_inP HIX.out));have HX1:=a_ HX;clear hJ HX h0 h2 hix HNL hL;cases hM:lt (xs.getD (2 * i+1) zP) (xs.getD i zP) with
     | false=>
      have HM2:=a_ hM;clear hM;go_wp2_with (first|(go_at_call 156;refine (ag_LessI k b (2 * i+2) (2 * i+1) _ _ (by omega) (by omega) false _ (Kd.C_below HC.out HB1.out) HCR.out HBK1.out HR1.out HJ2.out HJ1.out (HBE.out.trans (congrArg some HL1.out))).mono ?_;rintro e wa ⟨rfl,hd⟩;have HBK2:=a_ (blk_below HBK1.out hd);have HR2:=a_ (Kd.R_below HR1.out hd);have HB2:=a_ (below_step HB1.out hd);have HG2:=a_ (HG1.out.trans (grown_of_below hd _));clear hd HBK1 HR1 HB1 HG1)|(go_at_call 156;refine (ag_LessI k b (2 * i+1) i _ _ (by omega) (by omega) false _ (Kd.C_below HC.out HB2.out) HCR.out HBK2.out HR2.out HJ1.out HIX.out (HBF.out.trans (congrArg some HM2.out))).mono ?_;rintro e w1 ⟨rfl,hd⟩));go_ret;have e0:xs=r:=by have:=HX1.out;rw [if_neg (by rw [HM2.out];decide)] at this;exact this
      exact ⟨_,rfl,blk_below HBK2.out hd,e0▸Kd.R_below HR2.out hd,below_step HB2.out hd,HG2.out.trans (grown_of_below hd _)⟩
     | true=>
      have HM2:=a_ hM;clear hM;go_wp2_with (first|(go_at_call 156;refine (ag_LessI k b (2 * i+2) (2 * i+1) _ _ (by omega) (by omega) false _ (Kd.C_below HC.out HB1.out) HCR.out HBK1.out HR1.out HJ2.out HJ1.out (HBE.out.trans (congrArg some HL1.out))).mono ?_;rintro e wa ⟨rfl,hd⟩;have HBK2:=a_ (blk_below HBK1.out hd);have HR2:=a_ (Kd.R_below HR1.out hd);have HB2:=a_ (below_step HB1.out hd);have HG2:=a_ (HG1.out.trans (grown_of_below hd _));clear hd HBK1 HR1 HB1 HG1)|(go_at_call 156;refine (ag_LessI k b (2 * i+1) i _ _ (by omega) (by omega) true _ (Kd.C_below HC.out HB2.out) HCR.out HBK2.out HR2.out HJ1.out HIX.out (HBF.out.trans (congrArg some HM2.out))).mono ?_;rintro e w1 ⟨rfl,hd⟩;have HBK3:=a_ (blk_below HBK2.out hd);have HR3:=a_ (Kd.R_below HR2.out hd);have HB3:=a_ (below_step HB2.out hd);have HG3:=a_ (HG2.out.trans (grown_of_below hd _));clear hd)|(go_at_call 159;refine (ag_SwapI b i (2 * i+1) _ _ (by omega) (by omega) _ HBK3.out HR3.out HIX.out HJ1.out).mono ?_;rintro e w2 ⟨rfl,hb4,hr4,hg4⟩;have HBK4:=a_ hb4;have HR4:=a_ hr4;have HG4:=a_ (HG3.out.trans hg4);have HB4:=a_ (pw_below_grown HB3.out _ HB3.out.size hg4 HV.out);clear hb4 hr4 hg4));go_roundg m
      case measure=>omega
      case rel=>exact ⟨2 * i+1,m,swp zP xs i (2 * i+1),by first|rfl|(congr 1;omega),Nat.le_refl _,⟨by have:=HM1.out;omega⟩,by rw [swp_length];exact HJ1.out,by rw [swp_length];exact hxl,⟨by have:=HX1.out;rw [if_pos HM2.out] at this;exact this⟩,⟨(swp_perm zP xs i (2 * i+1) HIX.out HJ1.out).trans HP1.out⟩,HBK4,HR4,HB4,HG4⟩
    | true=>
     have hJ:dnJ lt zP xs i n=2 * i+2:=by unfold dnJ;rw [if_pos ⟨h2,hL⟩]
     have HL1:=a_ hL;rw [hJ] at HX;have HBF:=a_ (HLT.out.perm HP1.out _ _ (getD_inP HJ2.out) (getD_inP HIX.out));have HX1:=a_ HX;clear hJ HX h0 h2 hix HNL hL;cases hM:lt (xs.getD (2 * i+2) zP) (xs.getD i zP) with
     | false=>
      have HM2:=a_ hM;clear hM;go_wp2_with (first|(go_at_call 156;refine (ag_LessI k b (2 * i+2) (2 * i+1) _ _ (by omega) (by omega) true _ (Kd.C_below HC.out HB1.out) HCR.out HBK1.out HR1.out HJ2.out HJ1.out (HBE.out.trans (congrArg some HL1.out))).mono ?_;rintro e wa ⟨rfl,hd⟩;have HBK2:=a_ (blk_below HBK1.out hd);have HR2:=a_ (Kd.R_below HR1.out hd);have HB2:=a_ (below_step HB1.out hd);have HG2:=a_ (HG1.out.trans (grown_of_below hd _));clear hd HBK1 HR1 HB1 HG1)|(go_at_call 156;refine (ag_LessI k b (2 * i+2) i _ _ (by omega) (by omega) false _ (Kd.C_below HC.out HB2.out) HCR.out HBK2.out HR2.out HJ2.out HIX.out (HBF.out.trans (congrArg some HM2.out))).mono ?_;rintro e w1 ⟨rfl,hd⟩));go_ret;have e0:xs=r:=by have:=HX1.out;rw [if_neg (by rw [HM2.out];decide)] at this;exact this
      exact ⟨_,rfl,blk_below HBK2.out hd,e0▸Kd.R_below HR2.out hd,below_step HB2.out hd,HG2.out.trans (grown_of_below hd _)⟩
     | true=>
      have HM2:=a_ hM;clear hM;go_wp2_with (first|(go_at_call 156;refine (ag_LessI k b (2 * i+2) (2 * i+1) _ _ (by omega) (by omega) true _ (Kd.C_below HC.out HB1.out) HCR.out HBK1.out HR1.out HJ2.out HJ1.out (HBE.out.trans (congrArg some HL1.out))).mono ?_;rintro e wa ⟨rfl,hd⟩;have HBK2:=a_ (blk_below HBK1.out hd);have HR2:=a_ (Kd.R_below HR1.out hd);have HB2:=a_ (below_step HB1.out hd);have HG2:=a_ (HG1.out.trans (grown_of_below hd _));clear hd HBK1 HR1 HB1 HG1)|(go_at_call 156;refine (ag_LessI k b (2 * i+2) i _ _ (by omega) (by omega) true _ (Kd.C_below HC.out HB2.out) HCR.out HBK2.out HR2.out HJ2.out HIX.out (HBF.out.trans (congrArg some HM2.out))).mono ?_;rintro e w1 ⟨rfl,hd⟩;have HBK3:=a_ (blk_below HBK2.out hd);have HR3:=a_ (Kd.R_below HR2.out hd);have HB3:=a_ (below_step HB2.out hd);have HG3:=a_ (HG2.out.trans (grown_of_below hd _));clear hd)|(go_at_call 159;refine (ag_SwapI b i (2 * i+2) _ _ (by omega) (by omega) _ HBK3.out HR3.out HIX.out HJ2.out).mono ?_;rintro e w2 ⟨rfl,hb4,hr4,hg4⟩;have HBK4:=a_ hb4;have HR4:=a_ hr4;have HG4:=a_ (HG3.out.trans hg4);have HB4:=a_ (pw_below_grown HB3.out _ HB3.out.size hg4 HV.out);clear hb4 hr4 hg4));go_roundg m
      case measure=>omega
      case rel=>exact ⟨2 * i+2,m,swp zP xs i (2 * i+2),by first|rfl|(congr 1;omega),Nat.le_refl _,⟨by have:=HM1.out;omega⟩,by rw [swp_length];exact HJ2.out,by rw [swp_length];exact hxl,⟨by have:=HX1.out;rw [if_pos HM2.out] at this;exact this⟩,⟨(swp_perm zP xs i (2 * i+2) HIX.out HJ2.out).trans HP1.out⟩,HBK4,HR4,HB4,HG4⟩
   ·have q3:decide (2*(i:Int)+1+1<(n:Int))=false:=decide_eq_false (by omega)
    have q4:decide (2*(i:Int)+2<(n:Int))=false:=decide_eq_false (by omega)
    have HJ1:Aside0 (2 * i+1<xs.length):=⟨by omega⟩
    have hJ:dnJ lt zP xs i n=2 * i+1:=by unfold dnJ;rw [if_neg (fun h=>h2 h.1)]
    rw [hJ] at HX;have HBF:=a_ (HLT.out.perm HP1.out _ _ (getD_inP HJ1.out) (getD_inP HIX.out));have HX1:=a_ HX;clear hJ HX h0 h2 hix HNL;cases hM:lt (xs.getD (2 * i+1) zP) (xs.getD i zP) with
    | false=>
     have HM2:=a_ hM;clear hM;go_wp2_with (first|(go_at_call 156;refine (ag_LessI k b (2 * i+1) i _ _ (by omega) (by omega) false _ (Kd.C_below HC.out HB1.out) HCR.out HBK1.out HR1.out HJ1.out HIX.out (HBF.out.trans (congrArg some HM2.out))).mono ?_;rintro e w1 ⟨rfl,hd⟩));go_ret;have e0:xs=r:=by have:=HX1.out;rw [if_neg (by rw [HM2.out];decide)] at this;exact this
     exact ⟨_,rfl,blk_below HBK1.out hd,e0▸Kd.R_below HR1.out hd,below_step HB1.out hd,HG1.out.trans (grown_of_below hd _)⟩
    | true=>
     have HM2:=a_ hM;clear hM;go_wp2_with (first|(go_at_call 156;refine (ag_LessI k b (2 * i+1) i _ _ (by omega) (by omega) true _ (Kd.C_below HC.out HB1.out) HCR.out HBK1.out HR1.out HJ1.out HIX.out (HBF.out.trans (congrArg some HM2.out))).mono ?_;rintro e w1 ⟨rfl,hd⟩;have HBK3:=a_ (blk_below HBK1.out hd);have HR3:=a_ (Kd.R_below HR1.out hd);have HB3:=a_ (below_step HB1.out hd);have HG3:=a_ (HG1.out.trans (grown_of_below hd _));clear hd)|(go_at_call 159;refine (ag_SwapI b i (2 * i+1) _ _ (by omega) (by omega) _ HBK3.out HR3.out HIX.out HJ1.out).mono ?_;rintro e w2 ⟨rfl,hb4,hr4,hg4⟩;have HBK4:=a_ hb4;have HR4:=a_ hr4;have HG4:=a_ (HG3.out.trans hg4);have HB4:=a_ (pw_below_grown HB3.out _ HB3.out.size hg4 HV.out);clear hb4 hr4 hg4));go_roundg m
     case measure=>omega
     case rel=>exact ⟨2 * i+1,m,swp zP xs i (2 * i+1),by first|rfl|(congr 1;omega),Nat.le_refl _,⟨by have:=HM1.out;omega⟩,by rw [swp_length];exact HJ1.out,by rw [swp_length];exact hxl,⟨by have:=HX1.out;rw [if_pos HM2.out] at this;exact this⟩,⟨(swp_perm zP xs i (2 * i+1) HIX.out HJ1.out).trans HP1.out⟩,HBK4,HR4,HB4,HG4⟩
end Go.Proofs.YtejjlkbbnhpbdaaGreat.Pure
namespace Go.Proofs.YtejjlkbbnhpbdaaGreat.Pure
open Go.RowKit Go.Proofs.YtejjlkbbnhpbdaaGreat.P Go.Proofs.YtejjlkbbnhpbdaaGreatW.PrintWords Go.Proofs.YtejjlkbbnhpbdaaGreatW.PrintLast Go.Proofs.YtejjlkbbnhpbdaaGreatX
set_option linter.unusedVariables false
set_option linter.unusedSimpArgs false
open HeapT
attribute [local go_sem] ag_mLess ag_mSwap ag_mLen ag_mPush ag_mPop
theorem upI {f:Nat→Nat} {ok:Nat→Prop} {AR:Option Addr} {cR:Nat} {rs:List S58} {v:Value} {zs:List Pr} {lt:Pr→Pr→Bool} (k b j:Nat) (a:Int) (ha:a=j) (w0 w:World) (hC:Kd.C k58 w0 AR rs.length rs) (hcR:rs.length≤cR)
  (hB:Below w0.heap.size w0 w) (hb:AgB w b (.slice AR rs.length cR) v) (h:(kP f).R 31 w w0.heap.size ok v zs) (hj:j<zs.length) (hlt:LtB k rs lt zs) (hl:zs.length≤1048576) (r:List Pr) (hr:upH lt zP (j+1) zs j=r):
  Calls Tryz.prog 63 #[.iface 66 (.pointer (some ⟨b,0,none⟩)),.int .i64 a] w fun e w'=>e=.returned (.tuple #[])∧AgB w' b (.slice AR rs.length cR) v∧(kP f).R 31 w' w0.heap.size ok v r∧Below w0.heap.size w0 w'∧w.grownBy w' v.ownBlock:=by
 subst ha;exact hp_up k b j w0 w hC hcR hB hb h hj hlt hl r hr
theorem downI {f:Nat→Nat} {ok:Nat→Prop} {AR:Option Addr} {cR:Nat} {rs:List S58} {v:Value} {zs:List Pr} {lt:Pr→Pr→Bool} (k b i0 n:Nat) (a c:Int) (ha:a=i0) (hc:c=n) (w0 w:World) (hC:Kd.C k58 w0 AR rs.length rs) (hcR:rs.length≤cR)
  (hB:Below w0.heap.size w0 w) (hb:AgB w b (.slice AR rs.length cR) v) (h:(kP f).R 31 w w0.heap.size ok v zs) (hi:i0<zs.length) (hn:n≤zs.length) (hlt:LtB k rs lt zs) (hl:zs.length≤1048576) (m0:Nat) (hm:n-i0≤m0) (r:List Pr) (hr:dnH lt zP m0 zs i0 n=r):
  Calls Tryz.prog 64 #[.iface 66 (.pointer (some ⟨b,0,none⟩)),.int .i64 a,.int .i64 c] w fun e w'=>∃d,e=.returned (.bool d)∧AgB w' b (.slice AR rs.length cR) v∧(kP f).R 31 w' w0.heap.size ok v r∧Below w0.heap.size w0 w'∧w.grownBy w' v.ownBlock:=by
 subst ha;subst hc;exact hp_down k b i0 n w0 w hC hcR hB hb h hi hn hlt hl m0 hm r hr
set_option maxHeartbeats 4000000 in
set_option maxRecDepth 100000 in
theorem hp_Push {f:Nat→Nat} {ok okp:Nat→Prop} {AR:Option Addr} {cR:Nat} {rs:List S58} {v:Value} {zs:List Pr} {lt:Pr→Pr→Bool} (k b:Nat) (w0 w:World) (hC:Kd.C k58 w0 AR rs.length rs) (hcR:rs.length≤cR) (hB:Below w0.heap.size w0 w) (hwb:w0.heap.size≤b)
  (hb:AgB w b (.slice AR rs.length cR) v) (h:(kP f).R 31 w w0.heap.size ok v zs) (x:Pr) (A:Option Addr) (c:Nat) (hx:(Kd.int .i64).R 3 w w0.heap.size (fun k=>okp k∧f k=x.2) (.slice A x.1.f1.length c) x.1.f1)
  (hok:∀k,okp k→ok k∧some k≠v.ownBlock) (hnew:∀k,w.heap.size≤k→ok k) (hl:zs.length≤1000000) (hlt:LtB k rs lt (zs++[x])) (r:List Pr) (hr:pushH lt zP zs x=r):
  Calls Tryz.prog 36 #[.iface 66 (.pointer (some ⟨b,0,none⟩)),.iface 31 (.agg #[.int .i64 x.1.f0,.slice A x.1.f1.length c])] w fun e w'=>∃v',e=.returned (.tuple #[])∧AgB w' b (.slice AR rs.length cR) v'∧(kP f).R 31 w' w0.heap.size ok v' r∧Below w0.heap.size w0 w'∧Kept w w' (fun k=>k=b∨some k=v.ownBlock)∧(v'.ownBlock=v.ownBlock∨∃q,v'.ownBlock=some q∧w.heap.size≤q):=by
 have HC:=a_ hC;have HCR:=a_ hcR;have HB:=a_ hB;have HWB:=a_ hwb;have HBK:=a_ hb;have HR:=a_ h;have HX:=a_ hx;have HOK:=a_ hok;have HN:=a_ hnew;have HL:=a_ hl;have HLT:=a_ hlt;have HE:=a_ hr;have hz0:(0:Int)≤(zs.length:Int):=by omega
 have hz1:(zs.length:Int)≤1000000:=by omega
 clear hC hcR hB hwb hb h hx hok hnew hl hlt hr;go_enter Tryz.func36,Tryz.ntmps36
 go_wp2_with (first
  | (go_at_call 158;refine (ag_Push b w0 _ HB.out HWB.out HBK.out HR.out x A c HX.out HOK.out HN.out (by have:=HL.out;omega)).mono ?_;rintro e w1 ⟨v1,rfl,hb1,hr1,hB1,hk1,ho1⟩;have HBK1:=a_ hb1;have HR1:=a_ hr1;have HB1:=a_ hB1;have HK1:=a_ hk1;have HO1:=a_ ho1;clear hb1 hr1 hB1 hk1 ho1)
  | (go_at_call 38;refine (ag_Len b _ HBK1.out HR1.out).mono ?_;rintro e w2 ⟨rfl,rfl⟩)
  | (go_at_call 63;refine (upI k b zs.length _ (by simp) w0 _ HC.out HCR.out HB1.out HBK1.out HR1.out (by simp) HLT.out (by simp;have:=HL.out;omega) r HE.out).mono ?_;rintro e w3 ⟨rfl,hb3,hr3,hB3,hg3⟩;have HBK3:=a_ hb3;have HR3:=a_ hr3;have HB3:=a_ hB3;have HG3:=a_ hg3;clear hb3 hr3 hB3 hg3))
 go_end0
 refine ⟨v1,rfl,HBK3.out,HR3.out,HB3.out,Kept.of_grown HG3.out HK1.out (fun q e=>?_),HO1.out⟩;rcases HO1.out with h1|⟨q',h1,h2⟩
 ·exact .inl (.inr (h1▸e).symm)
 ·rw [h1] at e;injection e with e;subst e;exact .inr h2
set_option maxHeartbeats 4000000 in
set_option maxRecDepth 100000 in
theorem hp_Pop {f:Nat→Nat} {ok:Nat→Prop} {AR:Option Addr} {cR:Nat} {rs:List S58} {v:Value} {zs:List Pr} {lt:Pr→Pr→Bool} (k b:Nat) (w0 w:World) (hC:Kd.C k58 w0 AR rs.length rs) (hcR:rs.length≤cR) (hB:Below w0.heap.size w0 w) (hwb:w0.heap.size≤b)
  (hb:AgB w b (.slice AR rs.length cR) v) (h:(kP f).R 31 w w0.heap.size ok v zs) (hn:0<zs.length) (hl:zs.length≤1048576) (hlt:LtB k rs lt zs) (x:Pr) (hx:zs.getD 0 zP=x) (r:List Pr) (hr:(popH lt zP zs).take (zs.length-1)=r):
  Calls Tryz.prog 39 #[.iface 66 (.pointer (some ⟨b,0,none⟩))] w fun e w'=>∃A c v',e=.returned (.iface 31 (.agg #[.int .i64 x.1.f0,.slice A x.1.f1.length c]))∧AgB w' b (.slice AR rs.length cR) v'∧(kP f).R 31 w' w0.heap.size ok v' r∧v'.ownBlock=v.ownBlock∧(Kd.int .i64).R 3 w' w0.heap.size (fun k=>(ok k∧some k≠v.ownBlock)∧f k=x.2) (.slice A x.1.f1.length c) x.1.f1∧Below w0.heap.size w0 w'∧Kept w w' (fun k=>k=b∨some k=v.ownBlock):=by
 have HC:=a_ hC;have HCR:=a_ hcR;have HB:=a_ hB;have HWB:=a_ hwb;have HBK:=a_ hb;have HR:=a_ h;have HL:=a_ hl;have HLT:=a_ hlt;have hx2:=popH_last (lt:=lt) (z:=zP) zs hn;rw [hx] at hx2;have HX:=a_ hx2;have HE:=a_ hr;have HNN:=a_ hn;have hvb:∀q,v.ownBlock=some q→w0.heap.size≤q:=Kd.R_base h
 have HV:=a_ hvb;have hz0:(0:Int)≤(zs.length:Int)-1:=by omega
 have hz1:(zs.length:Int)≤1048576:=by omega
 clear hC hcR hB hwb hb h hl hlt hx hr hn hx2 hvb;go_enter Tryz.func39,Tryz.ntmps39
 go_wp2_with (first
  | (go_at_call 38;refine (ag_Len b _ HBK.out HR.out).mono ?_;rintro e w2 ⟨rfl,rfl⟩)
  | (go_at_call 159;refine (ag_SwapI b 0 (zs.length-1) _ _ rfl (by have:=HNN.out;omega) _ HBK.out HR.out HNN.out (by have:=HNN.out;omega)).mono ?_;rintro e w1 ⟨rfl,hb1,hr1,hg1⟩;have HBK1:=a_ hb1;have HR1:=a_ hr1;have HG1:=a_ hg1;have HB1:=a_ (pw_below_grown HB.out _ HB.out.size hg1 HV.out);clear hb1 hr1 hg1)
  | (go_at_call 64;refine (downI k b 0 (zs.length-1) _ _ rfl (by have:=HNN.out;omega) w0 _ HC.out HCR.out HB1.out HBK1.out HR1.out (by rw [swp_length];exact HNN.out) (by rw [swp_length];omega) (HLT.out.perm (swp_perm zP zs _ _ HNN.out (by have:=HNN.out;omega))) (by rw [swp_length];exact HL.out) zs.length (by omega) (popH lt zP zs) rfl).mono ?_;rintro e w3 ⟨d,rfl,hb3,hr3,hB3,hg3⟩;have HBK3:=a_ hb3;have HR3:=a_ hr3;have HB3:=a_ hB3;have HG3:=a_ hg3;clear hb3 hr3 hB3 hg3)
  | (go_at_call 157;refine (ag_Pop b w0 _ HB3.out HWB.out HBK3.out HR3.out (by rw [popH_length];exact HNN.out) (by rw [popH_length];have:=HL.out;omega)).mono ?_;rintro e w4 ⟨A,c,v',rfl,hb4,hr4,ho4,hi4,hB4,hk4⟩;rw [popH_length] at hr4 hi4;rw [popH_length,HX.out];rw [HX.out] at hi4;have HBK4:=a_ hb4;have HR4:=a_ hr4;have HO4:=a_ ho4;have HI4:=a_ hi4;have HB4:=a_ hB4;have HK4:=a_ hk4;clear hb4 hr4 ho4 hi4 hk4 hB4))
 go_ret;exact ⟨A,c,v',rfl,HBK4.out,HE.out▸HR4.out,HO4.out,HI4.out,HB4.out,Kept.then_ (Kept.of_grown HG3.out (Kept.of_grown HG1.out (Kept.refl _ _) (fun k e=>.inl (.inr e.symm))) (fun k e=>.inl (.inr e.symm))) HK4.out (fun k e=>.inl (.inl e))⟩
end Go.Proofs.YtejjlkbbnhpbdaaGreat.Pure
namespace Go.Proofs.YtejjlkbbnhpbdaaGreat.Pure
open Go.RowKit Go.Proofs.YtejjlkbbnhpbdaaGreat.P Go.Proofs.YtejjlkbbnhpbdaaGreatW.PrintWords Go.Proofs.YtejjlkbbnhpbdaaGreatW.PrintLast Go.Proofs.YtejjlkbbnhpbdaaGreatX
set_option linter.unusedVariables false
set_option linter.unusedSimpArgs false
open HeapT
def heapL (lt:Pr→Pr→Bool) (zs:List Pr):List Pr:=zs.foldl (fun h x=>pushH lt zP h x) []
theorem heapL_snoc (lt:Pr→Pr→Bool) (zs:List Pr) (x:Pr):heapL lt (zs++[x])=pushH lt zP (heapL lt zs) x:=by simp [heapL]
theorem fold_perm (lt:Pr→Pr→Bool):∀(zs h:List Pr),(zs.foldl (fun h x=>pushH lt zP h x) h).Perm (h++zs)
 | [],h=>by simp
 | x::zs,h=>by
  rw [List.foldl_cons];refine (fold_perm lt zs _).trans ?_;have:=(pushH_perm (lt:=lt) (z:=zP) h x).append_right zs
  rwa [List.append_assoc,List.singleton_append] at this
theorem fold_heap {lt:Pr→Pr→Bool} (O:HOrd lt):∀(zs h:List Pr),Hp lt zP h h.length→Hp lt zP (zs.foldl (fun h x=>pushH lt zP h x) h) (zs.foldl (fun h x=>pushH lt zP h x) h).length
 | [],h,hh=>hh
 | x::zs,h,hh=>by
  rw [List.foldl_cons];exact fold_heap O zs _ (by rw [pushH_length];exact pushH_heap O h x hh)
theorem heapL_perm (lt:Pr→Pr→Bool) (zs:List Pr):(heapL lt zs).Perm zs:=fold_perm lt zs []
theorem heapL_heap {lt:Pr→Pr→Bool} (O:HOrd lt) (zs:List Pr):Hp lt zP (heapL lt zs) (heapL lt zs).length:=fold_heap O zs [] (fun i _ h=>by simp at h)
def agendaL (lt:Pr→Pr→Bool) (cb:Bool) (p:S31→Bool) (xs:List S31):List S31:=
 if 1000<xs.length then [] else if cb=false then [] else if xs.any (fun x=>!p x)=true then [] else (HeapT.drain lt zP xs.length (heapL lt xs.zipIdx)).map (·.1)
def AgOk (k:Nat) (rs:List S58) (xs r:List S31):Prop:=∃(cb:Bool) (p:S31→Bool) (lt:Pr→Pr→Bool),impl_checked.f k rs=some cb∧(∀x,x∈xs→impl_there.f rs x.f0 x.f1=some (p x))∧
 (cb=true→xs.any (fun x=>!p x)=false→LtB k rs lt xs.zipIdx)∧xs.length≤1048576∧(∀x,x∈xs→x.f1.length≤1048576)∧r=agendaL lt cb p xs
theorem S_of_tags {α : Type} {d:Kd α} {f:Nat→Nat} {e:Nat} {w:World} {base:Nat} {ok:Nat→Prop} {v:Value} {zs:List (α×Nat)} (h:(Kd.tag f d).R e w base ok v zs) (hn:(zs.map (·.2)).Nodup):Kd.S d e w base ok v (zs.map (·.1)):=by
 refine ⟨fun k=>(zs.map (·.2)).idxOf (f k),?_⟩;obtain ⟨h0,inner,ho,hr⟩:=h;refine ⟨h0,inner,by rw [List.length_zipIdx,List.length_map];exact ho,by rw [hr.1,List.length_zipIdx,List.length_map];rfl,fun j p hj=>?_⟩;rw [List.getElem?_zipIdx,List.getElem?_map] at hj;cases hz:zs[j]? with
 | none=>rw [hz] at hj;cases hj
 | some q=>
  rw [hz] at hj;simp only [Option.map_some,Nat.zero_add,Option.some.injEq] at hj;subst hj;have hM:=hr.2 j q hz;refine d.M_mono (fun k hk=>⟨hk.1,?_⟩) hM;have hk2:f k=q.2:=hk.2
  show (zs.map (·.2)).idxOf (f k)=j;rw [hk2];obtain ⟨hj,hq⟩:=List.getElem?_eq_some_iff.1 hz;have hj':j<(zs.map (·.2)).length:=by rw [List.length_map];exact hj
  have:=hn.idxOf_getElem j hj'
  rw [List.getElem_map,hq] at this;exact this
theorem zip_nodup {α : Type} (xs:List α):(xs.zipIdx.map (·.2)).Nodup:=by
 show (xs.zipIdx.map Prod.snd).Nodup;rw [List.zipIdx_map_snd];exact List.nodup_range'
theorem take_succ_zip {α : Type} (xs:List α) (z : α) (i:Nat) (h:i<xs.length):xs.zipIdx.take (i+1)=xs.zipIdx.take i++[(xs.getD i z,i)]:=by
 have hl:i<xs.zipIdx.length:=by rw [List.length_zipIdx];exact h
 rw [List.take_succ_eq_append_getElem hl];simp [List.getD_eq_getElem?_getD,h]
theorem ag_next (lt:Pr→Pr→Bool) (xs:List S31) (i:Nat) (h:i<xs.length) (H:List Pr) (hH:heapL lt (xs.zipIdx.take i)=H):heapL lt (xs.zipIdx.take (i+1))=pushH lt zP H (xs.getD i z31,i):=by
 rw [take_succ_zip xs z31 i h,heapL_snoc,hH]
theorem ag_sub {k:Nat} {rs:List S58} {lt:Pr→Pr→Bool} {zs ys:List Pr} (h:LtB k rs lt zs) (hs:∀x,x∈ys→x∈zs):LtB k rs lt ys:=fun x y hx hy=>h x y (hs x hx) (hs y hy)
theorem ag_mem (lt:Pr→Pr→Bool) (xs:List S31) (i:Nat) (h:i<xs.length) (H:List Pr) (hH:heapL lt (xs.zipIdx.take i)=H):∀x,x∈H++[(xs.getD i z31,i)]→x∈xs.zipIdx:=by
 intro x hx
 have:x∈xs.zipIdx.take (i+1):=by
  rw [take_succ_zip xs z31 i h];rcases List.mem_append.1 hx with h1|h1
  ·rw [←hH] at h1;exact List.mem_append_left _ ((heapL_perm lt _).mem_iff.1 h1)
  ·exact List.mem_append_right _ h1
 exact List.mem_of_mem_take this
theorem ag_len (lt:Pr→Pr→Bool) (xs:List S31) (i:Nat) (H:List Pr) (hH:heapL lt (xs.zipIdx.take i)=H):H.length≤xs.length:=by
 rw [←hH,(heapL_perm lt _).length_eq,List.length_take,List.length_zipIdx];omega
end Go.Proofs.YtejjlkbbnhpbdaaGreat.Pure
namespace Go.Proofs.YtejjlkbbnhpbdaaGreat.Pure
open Go.RowKit Go.Proofs.YtejjlkbbnhpbdaaGreat.P Go.Proofs.YtejjlkbbnhpbdaaGreatW.PrintWords Go.Proofs.YtejjlkbbnhpbdaaGreatW.PrintLast Go.Proofs.YtejjlkbbnhpbdaaGreatX
set_option linter.unusedVariables false
set_option linter.unusedSimpArgs false
open HeapT
attribute [local go_sem] ag_mLess ag_mSwap ag_mLen ag_mPush ag_mPop ag_assert
set_option maxHeartbeats 8000000 in
set_option maxRecDepth 100000 in
theorem impl_Agenda.walk (k:Nat) (AR:Option Addr) (cR:Nat) (rs:List S58) (A:Option Addr) (c:Nat) (xs r:List S31) (w:World) (hr0:Kd.C k58 w AR rs.length rs) (hc0:rs.length≤cR) (hr1:Kd.C k31 w A xs.length xs) (hc1:xs.length≤c) (h:AgOk k rs xs r):
  Calls Tryz.prog 16 #[.slice AR rs.length cR,.slice A xs.length c] w fun e w'=>∃v:Value,e=.returned v∧Kd.S k31 31 w' w.heap.size (fun _=>True) v r∧Below w.heap.size w w':=by
 obtain ⟨cb,p,lt,hck,hth,hlt,hm,hm2,rfl⟩:=h;have HC:=a_ hr0;have HCR:=a_ hc0;have HX:=a_ hr1;have HCX:=a_ hc1;have HM:=a_ hm;have HM2:=a_ hm2;have HCK:=a_ hck;have HTH:=a_ hth;have HB:=a_ (Below.refl w.heap.size w);have HBA:=a_ (below_alloc (Below.refl w.heap.size w) (.cells #[.slice AR rs.length cR] 29));have HBK:=a_ (blk_new w (.cells #[.slice AR rs.length cR] 29));have q0:=(blk_cell HBK.out 0).trans rfl;simp only [List.getElem?_toArray,List.getElem?_cons_zero,List.getElem?_cons_succ] at q0;clear hr0 hc0 hr1 hc1 hck hth hm2;by_cases k1:1000<xs.length
 ·have g1:decide (1000<(xs.length:Int))=true:=decide_eq_true (by omega)
  have E0:Aside0 (agendaL lt cb p xs=[]):=⟨by unfold agendaL;rw [if_pos k1]⟩
  clear k1 hm hlt;go_enter Tryz.func16,Tryz.ntmps16;go_wp2;go_ret;exact ⟨_,rfl,E0.out▸Kd.S_nil _ _ _ _ _,mb_ HB⟩
 have g1:decide (1000<(xs.length:Int))=false:=decide_eq_false (by omega)
 cases cb with
 | false=>
  have E0:Aside0 (agendaL lt false p xs=[]):=⟨by unfold agendaL;rw [if_neg k1,if_pos rfl]⟩
  clear k1 hm hlt;go_enter Tryz.func16,Tryz.ntmps16;go_wp2_with (first|(go_at_call 29;refine (impl_checked.calls k AR cR rs false _ (Kd.C_alloc HC.out _) HCR.out HCK.out).mono ?_;rintro e w1 ⟨rfl,hd⟩;have HB1:=a_ (below_step HBA.out hd);clear hd));go_ret;exact ⟨_,rfl,E0.out▸Kd.S_nil _ _ _ _ _,mb_ HB1⟩
 | true=>
 cases hany:xs.any (fun x=>!p x) with
 | true=>
  have E0:Aside0 (agendaL lt true p xs=[]):=⟨by unfold agendaL;rw [if_neg k1,if_neg (by simp),if_pos hany]⟩
  have HA:=a_ hany;clear k1 hm hlt hany;go_enter Tryz.func16,Tryz.ntmps16
  go_wp2_with (first
   | (go_at_call 29;refine (impl_checked.calls k AR cR rs true _ (Kd.C_alloc HC.out _) HCR.out HCK.out).mono ?_;rintro e w1 ⟨rfl,hd⟩;have HB1:=a_ (below_step HBA.out hd);have HBK1:=a_ (blk_below HBK.out hd);clear hd)
   | (go_at_call 35;refine (anyInst w.heap.size p A c xs _ HBK1.out (Kd.C_below HC.out HB1.out) HCR.out (Kd.C_below HX.out HB1.out) HCX.out HM.out HTH.out).mono ?_;rintro e w2 ⟨rfl,hd⟩;rw [HA.out];have HB2:=a_ (below_step HB1.out hd);clear hd))
  go_ret;exact ⟨_,rfl,E0.out▸Kd.S_nil _ _ _ _ _,mb_ HB2⟩
 | false=>
 have E0:Aside0 (agendaL lt true p xs=(HeapT.drain lt zP xs.length (heapL lt xs.zipIdx)).map (·.1)):=⟨by unfold agendaL;rw [if_neg k1,if_neg (by simp),if_neg (by rw [hany];simp)]⟩
 have HA:=a_ hany;have HLT:=a_ (hlt rfl hany);have HN:Aside0 (xs.length≤1000):=⟨by omega⟩
 clear k1 hm hlt hany;go_enter Tryz.func16,Tryz.ntmps16
 go_wp2_with (first
  | (go_at_call 29;refine (impl_checked.calls k AR cR rs true _ (Kd.C_alloc HC.out _) HCR.out HCK.out).mono ?_;rintro e w1 ⟨rfl,hd⟩;have HB1:=a_ (below_step HBA.out hd);have HBK1:=a_ (blk_below HBK.out hd);have hs1:w.heap.size+1≤w1.heap.size:=(by have h_:=hd.size;simpa using h_);clear hd)
  | (go_at_call 35;refine (anyInst w.heap.size p A c xs _ HBK1.out (Kd.C_below HC.out HB1.out) HCR.out (Kd.C_below HX.out HB1.out) HCX.out HM.out HTH.out).mono ?_;rintro e w2 ⟨rfl,hd⟩;rw [HA.out];have HB2:=a_ (below_step HB1.out hd);have HBK2:=a_ (blk_below HBK1.out hd);have hs2:w1.heap.size≤w2.heap.size:=hd.size;have q2:=(blk_cell HBK2.out 0).trans rfl;simp only [List.getElem?_toArray,List.getElem?_cons_zero,List.getElem?_cons_succ] at q2;clear hd))
 have BT0:Aside0 (AgB (w2.alloc (.cells #[.slice AR rs.length cR,.slice none 0 0] 68)) w2.heap.size (.slice AR rs.length cR) (.slice none 0 0)):=⟨blk_new w2 _⟩
 have HB3:=a_ (below_alloc HB2.out (.cells #[.slice AR rs.length cR,.slice none 0 0] 68));have HR0:Aside0 ((kP (fun _=>0)).R 31 (w2.alloc (.cells #[.slice AR rs.length cR,.slice none 0 0] 68)) w.heap.size (fun _=>True) (.slice none 0 0) []):=⟨Kd.R_nil _ _ _ _ _⟩
 have HWB:=a_ HB2.out.size;have HE0:Aside0 (heapL lt (xs.zipIdx.take 0)=[]):=⟨rfl⟩
 generalize w2.heap.size=bt at *;go_loopg [29] xs.length (fun gg v29 wr=>∃(i:Nat) (f:Nat→Nat) (v:Value) (H:List Pr),i≤xs.length∧xs.length-i≤gg∧v29=.int .i64 (i:Int)∧Aside0 (heapL lt (xs.zipIdx.take i)=H)∧Aside0 (AgB wr bt (.slice AR rs.length cR) v)∧Aside0 ((kP f).R 31 wr w.heap.size (fun _=>True) v H)∧Aside0 (Below w.heap.size w wr))
 case atStart=>exact ⟨0,_,_,[],Nat.zero_le _,Nat.sub_le _ _,rfl,HE0,BT0,HR0,HB3⟩
 clear BT0 HB3 HR0 HE0 hs1 hs2 q0 q2 HBK HBK1 HBK2 HB1 HB2 HBA HB;obtain ⟨i,f,v,H,hi,hgg,rfl,HH,AG,HR,HB⟩:=hrel;by_cases hlt:i<xs.length
 ·have hz:(i:Int)<(xs.length:Int):=by omega
  have hz0:(0:Int)≤(i:Int):=by omega
  have hz1:(i:Int)≤1048576:=by have:=HM.out;omega
  obtain ⟨ad,A1,c1,e0,hx0,hx1,hl1,hi1⟩:=at_T31 HX.out (i:Int) hz0 hz;cases e0;replace hx0:=mx_ HB hx0;replace hx1:=mx_ HB hx1;have hrd:rd_T31 xs (i:Int)=xs.getD i z31:=by simp [rd_T31]
  rw [hrd] at hx0 hx1 hl1 hi1;simp only [Int.toNat_natCast] at hx0 hx1;have HL2:=a_ (HM2.out _ (Go.Proofs.YtejjlkbbnhpbdaaGreatX.getD_mem (z:=z31) hlt));have HNX:=a_ (ag_next lt xs i hlt H HH.out);have HSB:=a_ (ag_sub HLT.out (ag_mem lt xs i hlt H HH.out));have HLN:=a_ (ag_len lt xs i H HH.out);have HTG:=a_ hi1;have HTL:=a_ hl1;have HIL:=a_ hlt;generalize xs.getD i z31=y at *;have BX0:Aside0 ((wr.alloc (.cells #[.int .i64 y.f0,.slice A1 y.f1.length c1] 31)).heap[wr.heap.size]?=some (.cells #[.int .i64 y.f0,.slice A1 y.f1.length c1] 31)):=⟨blk_new wr _⟩
  have HRt:=a_ (Kd.R_alloc (Kd.R_tag (f':=fun k=>if k<wr.heap.size then f k else i) HR.out (fun k _ hk=>if_pos hk)) (.cells #[.int .i64 y.f0,.slice A1 y.f1.length c1] 31));have AGx:=a_ (blk_alloc AG.out (.cells #[.int .i64 y.f0,.slice A1 y.f1.length c1] 31));have HBx:=a_ (below_alloc HB.out (.cells #[.int .i64 y.f0,.slice A1 y.f1.length c1] 31));have HSZ:Aside0 ((wr.alloc (.cells #[.int .i64 y.f0,.slice A1 y.f1.length c1] 31)).heap.size=wr.heap.size+1):=⟨by simp⟩
  have HVL:=a_ (Kd.R_lt HR.out);have HBL:=a_ (blk_lt AG.out);clear hrd hl1 hi1 hlt;go_wp2;generalize wr.alloc (.cells #[.int .i64 y.f0,.slice A1 y.f1.length c1] 31)=wx at *
  go_region_held3 (fun w'=>w'.cell? ⟨wr.heap.size,0,none⟩=some (.int .i64 y.f0)∧w'.cell? ⟨wr.heap.size,1,none⟩=some (.slice A1 y.f1.length c1)) (first|exact bc2 ⟨mc_ BX2⟩|exact bc2 ⟨mc_ BX1⟩|exact bc2 ⟨mc_ BX0⟩)
   (first
    | (go_at_call 37;refine (cloneI A1 c1 y.f1 _ (mt_ HTG HBx) HL2.out).mono ?_;rintro e w3 ⟨v',rfl,hv,hd⟩;obtain ⟨A',c',ev⟩:=Kd.R_slice hv;subst ev;have BX1:=mk_ BX0 hd;have AG1:=mk_ AGx hd;have HB1:=ms_ HBx hd;have HR1:=ro_ HRt hd;have HV1:=a_ (Kd.R_lower (Kd.R_mono (ok':=fun k=>wr.heap.size≤k∧(if k<wr.heap.size then f k else i)=i) (Kd.R_bound hv) (fun k hk=>(by have h2:wx.heap.size≤k:=hk.2.1;have h3:=HSZ.out;exact ⟨by omega,if_neg (by omega)⟩))) (show w.heap.size≤wx.heap.size from HBx.out.size));clear hv hd)
    | (go_at_call 36;refine (hp_Push (f:=fun k=>if k<wr.heap.size then f k else i) (ok:=fun _=>True) (okp:=fun k=>wr.heap.size≤k) k bt w _ HC.out HCR.out HB1.out HWB.out AG1.out HR1.out (y,i) A' c' HV1.out (fun q hq=>⟨trivial,fun e=>(by have:=HVL.out q e.symm;omega)⟩) (fun _ _=>trivial) (by have:=HLN.out;have:=HN.out;omega) HSB.out _ rfl).mono ?_;rintro e w4 ⟨v4,rfl,hb4,hr4,hB4,hk4,_⟩;have BX2:=a_ (blk_kept BX1.out hk4 (fun h_=>h_.elim (fun h=>by have:=HBL.out;omega) (fun h=>by have:=HVL.out _ h.symm;omega)));have AG4:=a_ hb4;have HR4:=a_ hr4;have HB4:=a_ hB4;clear hb4 hr4 hB4 hk4))
  go_wp2;go_roundg (xs.length-(i+1))
  case measure=>omega
  case rel=>exact ⟨i+1,_,v4,_,by have:=HIL.out;omega,Nat.le_refl _,by go_num,HNX,AG4,HR4,HB4⟩
 ·have hlt2:¬(i:Int)<(xs.length:Int):=by omega
  have hil:i=xs.length:=by omega
  subst hil;have hh:=HH.out;rw [List.take_of_length_le (by rw [List.length_zipIdx];exact Nat.le_refl _)] at hh;have HH2:=a_ hh;clear hh HH hlt hlt2;go_wp2;have HHN:Aside0 (H.length≤1000):=⟨by have:=ag_len lt xs xs.length H (by rw [List.take_of_length_le (by rw [List.length_zipIdx];exact Nat.le_refl _)];exact HH2.out);have:=HN.out;omega⟩
  have HHL:Aside0 (H.length=xs.length):=⟨by rw [←HH2.out,(heapL_perm lt _).length_eq,List.length_zipIdx]⟩
  have HSU:Aside0 (∀x,x∈H→x∈xs.zipIdx):=⟨fun x hx=>by rw [←HH2.out] at hx;exact (heapL_perm lt _).mem_iff.1 hx⟩
  have HR1:Aside0 ((kP f).R 31 wr w.heap.size (fun k=>some k≠(Value.slice none 0 0).ownBlock) v H):=⟨Kd.R_mono HR.out (fun k _=>by simp [Value.ownBlock])⟩
  have HO1:Aside0 ((kP f).R 31 wr w.heap.size (fun k=>some k≠v.ownBlock) (.slice none 0 0) []):=⟨Kd.R_nil _ _ _ _ _⟩
  obtain ⟨T,hT⟩:∃T,HeapT.drain lt zP H.length H=T:=⟨_,rfl⟩;have HT:Aside0 ([]++HeapT.drain lt zP H.length H=T):=⟨hT⟩
  have HTE:Aside0 (agendaL lt true p xs=T.map (·.1)):=⟨by rw [E0.out,HH2.out,←hT,HHL.out]⟩
  have HTP:Aside0 (T.Perm xs.zipIdx):=⟨by rw [←hT];refine (drain_perm _ H rfl).trans ?_;rw [←HH2.out];exact heapL_perm lt _⟩
  clear hT;go_loopg [9] H.length (fun gg v9 wq=>∃(v:Value) (G os:List Pr),G.length≤gg∧Aside0 (os++HeapT.drain lt zP G.length G=T)∧Aside0 (∀x,x∈G→x∈xs.zipIdx)∧Aside0 (os.length+G.length=xs.length)∧Aside0 (AgB wq bt (.slice AR rs.length cR) v)∧Aside0 ((kP f).R 31 wq w.heap.size (fun k=>some k≠v9.ownBlock) v G)∧Aside0 ((kP f).R 31 wq w.heap.size (fun k=>some k≠v.ownBlock) v9 os)∧Aside0 (Below w.heap.size w wq))
  case atStart=>exact ⟨v,H,[],Nat.le_refl _,HT,HSU,⟨by rw [HHL.out];simp⟩,AG,HR1,HO1,HB⟩
  clear HT HSU HHL HHN HR1 HO1 HR AG HB HH2 E0;obtain ⟨v2,G,os,hgg,HT,HSU,HLL,AG,HR,HO,HB⟩:=hrel;obtain ⟨AO,cO,e9⟩:=Kd.R_slice HO.out;subst e9;cases G with
  | nil=>
   have e1:=HT.out;rw [List.length_nil,HeapT.drain,List.append_nil] at e1;have HE1:=a_ e1;clear e1;go_wp2_with (first|(go_at_call 38;refine (ag_Len bt _ AG.out HR.out).mono ?_;rintro e w5 ⟨rfl,rfl⟩));go_ret;refine ⟨_,rfl,?_,HB.out⟩;rw [HTE.out,←HE1.out];refine Kd.S_mono (S_of_tags HO.out ?_) (fun _ _=>trivial);rw [HE1.out];exact (HTP.out.map _).nodup_iff.2 (zip_nodup xs)
  | cons g0 G0=>
   have hG:(g0::G0).length=G0.length+1:=rfl
   have hg1:decide (0<((g0::G0).length:Int))=true:=decide_eq_true (by rw [hG];omega)
   have hg2:(0:Int)<((G0.length+1:Nat):Int):=by omega
   obtain ⟨r,hr⟩:∃r,(popH lt zP (g0::G0)).take ((g0::G0).length-1)=r:=⟨_,rfl⟩;have hrl:r.length=G0.length:=by rw [←hr,List.length_take,popH_length,hG];omega
   have hrs:∀x,x∈r→x∈xs.zipIdx:=fun x hx=>HSU.out x (by rw [←hr] at hx;exact (popH_perm (lt:=lt) (z:=zP) (g0::G0) (by rw [hG];omega)).mem_iff.1 (List.mem_of_mem_take hx))
   have htt:(os++[g0])++HeapT.drain lt zP r.length r=T:=by
    have:=HT.out
    rw [hG,HeapT.drain,hr] at this;rw [List.append_assoc,hrl];exact this
   have HRR:=a_ hr;have HRL:=a_ hrl;have HRS:=a_ hrs;have HTT:=a_ htt;have HLT2:=a_ (ag_sub HLT.out HSU.out);have HGL:=a_ hG;have HLL2:Aside0 (os.length+1+G0.length≤1000):=⟨by have:=HLL.out;have:=HN.out;rw [hG] at *;omega⟩
   have HO2:=a_ (Kd.R_types HO.out AG.out (agE (f:=f)));clear hr hrl hrs htt hG HT HSU
   go_wp2_with (first
    | (go_at_call 38;refine (ag_Len bt _ AG.out HR.out).mono ?_;rintro e w5 ⟨rfl,rfl⟩)
    | (go_at_call 39;refine (hp_Pop (f:=f) k bt w _ HC.out HCR.out HB.out HWB.out AG.out HR.out (by rw [HGL.out];omega) (by rw [HGL.out];have:=HLL2.out;omega) HLT2.out g0 rfl r HRR.out).mono ?_;rintro e w5 ⟨A5,c5,v5,rfl,hb5,hr5,ho5,hi5,hB5,hk5⟩;have AG5:=a_ hb5;have HR5:=a_ hr5;have HE5:=a_ ho5;have HI5:=a_ hi5;have HB5:=a_ hB5;have HO5:=a_ (Kd.R_kept HO2.out hk5 (fun q hq h_=>h_.elim (fun h=>hq.2 h) (fun h=>hq.1 h)));clear hb5 hr5 ho5 hi5 hB5 hk5)
    | (at_builtin;refine Kd.R_append (kP f) (w0:=w) w.heap.size rfl (.tmp 47) (.tmp 52) 38 31 (.agg #[.int .i64 0,.slice none 0 0]) 32 rfl Tryz.underlying38 info31 rfl (show 0<2 by decide) (by decide) (.slice AO os.length cO) os g0 [.int .i64 g0.1.f0,.slice A5 g0.1.f1.length c5] (fun q=>some q≠v5.ownBlock) (fun q=>some q≠(Value.slice AO os.length cO).ownBlock∧some q≠v2.ownBlock) rfl rfl (agM_mk HI5.out) (fun q hq=>⟨fun e=>hq.2 (e.trans HE5.out),hq.1⟩) (fun q hq e=>(by have:=Kd.R_lt HR5.out q e.symm;omega)) (Kd.R_mono HO5.out (fun q hq e=>hq.1 (e.trans HE5.out))) HB5.out HB5.out.size (by have:=HLL2.out;omega) ?_;intro v6 w6 ho6 hb6 hg6 hat6;have HO6:=a_ ho6;have HB6:=a_ hb6;have AG6:=a_ (blk_grown AG5.out hg6 (Kd.R_ne HO5.out AG5.out (by decide)));have HR6:=a_ (Kd.R_mono (Kd.R_after (ok:=fun _=>True) (Kd.R_mono HR5.out (fun q hq=>⟨trivial,hq⟩)) hg6 hat6) (fun q hq=>hq.2));clear ho6 hb6 hg6 hat6))
   go_roundg G0.length
   case measure=>have:=HGL.out;omega
   case rel=>exact ⟨v5,r,os++[g0],by rw [HRL.out];exact Nat.le_refl _,HTT,HRS,⟨by rw [HRL.out,List.length_append,List.length_singleton];have:=HLL.out;rw [HGL.out] at this;omega⟩,AG6,HR6,HO6,HB6⟩
end Go.Proofs.YtejjlkbbnhpbdaaGreat.Pure
namespace Go.Proofs.YtejjlkbbnhpbdaaGreat.Pure
open Go.RowKit Go.Proofs.YtejjlkbbnhpbdaaGreat.P Go.Proofs.YtejjlkbbnhpbdaaGreatW.PrintWords Go.Proofs.YtejjlkbbnhpbdaaGreatW.PrintLast Go.Proofs.YtejjlkbbnhpbdaaGreatX
set_option linter.unusedVariables false
set_option linter.unusedSimpArgs false
theorem strOfNums_one (c:Int):(strOfNums [c]).size=1:=rfl
theorem markText_loop:∀(n:Nat) (x:Int) (s:ByteArray),0≤x→x≤9223372036854775807→x<10 ^ n→s.size+n<1000→∃r,laws_markText.l0 (n+1) x s=some r
 | 0,x,s,h0,_,h1,hs=>by
  simp only [laws_markText.l0];rw [if_neg (by omega),if_pos (by omega)];exact ⟨_,rfl⟩
 | n+1,x,s,h0,h2,h1,hs=>by
  rw [Int.pow_succ] at h1;unfold laws_markText.l0
  by_cases c:x>0
  ·rw [if_pos c]
   have hd:wrap64 (Int.tdiv x 10)=x / 10:=by
    rw [Int.tdiv_eq_ediv_of_nonneg h0];unfold wrap64
    omega
   rw [hd];simp only [Option.bind_some];rw [if_pos (by rw [strOfNums_one];omega)];refine markText_loop n (x / 10) _ (by omega) (by omega) ?_ ?_
   ·exact Int.ediv_lt_of_lt_mul (by omega) h1
   ·rw [ByteArray.size_append,strOfNums_one];omega
  ·rw [if_neg c,if_pos (by omega)];exact ⟨_,rfl⟩
def mtxt (a:Int):ByteArray:=(laws_markText.f 20 a).getD ⟨#[]⟩
end Go.Proofs.YtejjlkbbnhpbdaaGreat.Pure
