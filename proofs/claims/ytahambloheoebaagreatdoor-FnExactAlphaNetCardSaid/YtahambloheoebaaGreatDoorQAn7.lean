/- The row of the law FnExactAlphaNet: for every input the call returns true, and each argument reads behind it as it read before; no condition of ours. -/
import Derived.Test.YtahambloheoebaaGreatDoorQAn6
set_option linter.unusedVariables false
set_option linter.unusedSimpArgs false
namespace Go.Proofs.YtahambloheoebaaGreatDoor.P
open Go.Proofs.YtahambloheoebaaGreatDoorX
open Go.RowKit Go.Proofs.YtahambloheoebaaGreatDoorW.PrintWords Go.Proofs.YtahambloheoebaaGreatDoorW.PrintLast Go.Proofs.YtahambloheoebaaGreatDoorW.PrintMore
attribute [local go_sem] ww_ wx_ max_two min_two wc_ wb_ wu_ wv_
mutual
def z4_.l0:Nat→List ByteArray→List (S42)→Int→Int→ByteArray→Int→List (S42)→List (S161)→List (S98)→Option (Int)
 | 0,_,_,_,_,_,_,_,_,_=>none
 | k+1,x3,x14,x15,x16,x389000,x389001,x389002,x389003,x389004=>if x16<x15 then (if 0≤x16 then (if x16<(x14.length:Int) then (if ([]:List ByteArray).length+x3.length<8796093022208 then (z4_.l1 k x3 x16 (([]:List ByteArray)++x3) x14 x15 x16 ((zq_ x14 x16).f2) (((zq_ x14 x16).f2).length:Int) 0 x389000 x389001 x389002 x389003 x389004 ((zq_ x14 x16).f0) ((zq_ x14 x16).f1) ((zq_ x14 x16).f2)) else (none)) else (none)) else (none)) else (z4_.l2 k x3 x389004 (x389004.length:Int) 0 x389000 x389001 x389002 x389003 x389004)
def z4_.l1:Nat→List ByteArray→Int→List ByteArray→List (S42)→Int→Int→List (S86)→Int→Int→ByteArray→Int→List (S42)→List (S161)→List (S98)→Bool→ByteArray→List (S86)→Option (Int)
 | 0,_,_,_,_,_,_,_,_,_,_,_,_,_,_,_,_,_=>none
 | k+1,x3,x4,x6,x14,x15,x16,x25,x26,x27,x389000,x389001,x389002,x389003,x389004,x391000,x391001,x391002=>if x27<x26 then (if 0≤x27 then (if x27<(x25.length:Int) then (if ((z6_ x25 x27).f0)=3 then (if ((z6_ x25 x27).f2).toList=([]:List UInt8) then (z4_.j2 k x3 x4 x6 x14 x15 x16 x25 x26 x27 false x389000 x389001 x389002 x389003 x389004 x391000 x391001 x391002 ((z6_ x25 x27).f0) ((z6_ x25 x27).f1) ((z6_ x25 x27).f2) ((z6_ x25 x27).f3.f0) ((z6_ x25 x27).f3.f1) ((z6_ x25 x27).f3.f2)) else ((yl_.f k ((z6_ x25 x27).f2) x6).bind fun t396=>(z4_.j2 k x3 x4 x6 x14 x15 x16 x25 x26 x27 (!t396) x389000 x389001 x389002 x389003 x389004 x391000 x391001 x391002 ((z6_ x25 x27).f0) ((z6_ x25 x27).f1) ((z6_ x25 x27).f2) ((z6_ x25 x27).f3.f0) ((z6_ x25 x27).f3.f1) ((z6_ x25 x27).f3.f2)))) else (z4_.j2 k x3 x4 x6 x14 x15 x16 x25 x26 x27 false x389000 x389001 x389002 x389003 x389004 x391000 x391001 x391002 ((z6_ x25 x27).f0) ((z6_ x25 x27).f1) ((z6_ x25 x27).f2) ((z6_ x25 x27).f3.f0) ((z6_ x25 x27).f3.f1) ((z6_ x25 x27).f3.f2))) else (none)) else (none)) else (if x391000=true then (z4_.l0 k x3 x14 x15 (wrap64 (x16+1)) x389000 x389001 x389002 x389003 x389004) else (z4_.l0 k x6 x14 x15 (wrap64 (x16+1)) x389000 x389001 x389002 x389003 x389004))
def z4_.j2:Nat→List ByteArray→Int→List ByteArray→List (S42)→Int→Int→List (S86)→Int→Int→Bool→ByteArray→Int→List (S42)→List (S161)→List (S98)→Bool→ByteArray→List (S86)→Int→Int→ByteArray→Int→Int→ByteArray→Option (Int)
 | 0,_,_,_,_,_,_,_,_,_,_,_,_,_,_,_,_,_,_,_,_,_,_,_,_=>none
 | k+1,x3,x4,x6,x14,x15,x16,x25,x26,x27,x45,x389000,x389001,x389002,x389003,x389004,x391000,x391001,x391002,x396000,x396001,x396002,x396003,x396004,x396005=>if x45=true then (some (wrap64 (x4+1))) else (if x396000=2 then (if x6.length<8796093022208 then (z4_.l1 k x3 x4 (x6++[x396002]) x14 x15 x16 x25 x26 (wrap64 (x27+1)) x389000 x389001 x389002 x389003 x389004 x391000 x391001 x391002) else (none)) else (z4_.l1 k x3 x4 x6 x14 x15 x16 x25 x26 (wrap64 (x27+1)) x389000 x389001 x389002 x389003 x389004 x391000 x391001 x391002))
def z4_.l2:Nat→List ByteArray→List (S98)→Int→Int→ByteArray→Int→List (S42)→List (S161)→List (S98)→Option (Int)
 | 0,_,_,_,_,_,_,_,_,_=>none
 | k+1,x3,x63,x64,x65,x389000,x389001,x389002,x389003,x389004=>if x65<x64 then (if 0≤x65 then (if x65<(x63.length:Int) then (if (((y3_ x63 x65).f3).length:Int)=0 then (z4_.l2 k x3 x63 x64 (wrap64 (x65+1)) x389000 x389001 x389002 x389003 x389004) else (if 0<(((y3_ x63 x65).f3).length:Int) then ((y1_.f k x389003 (rd ((y3_ x63 x65).f3) 0)).bind fun t403=>(z4_.l3 k x3 x65 t403 x63 x64 x65 x389000 x389001 x389002 x389003 x389004 ((y3_ x63 x65).f0) ((y3_ x63 x65).f1) ((y3_ x63 x65).f2) ((y3_ x63 x65).f3))) else (none))) else (none)) else (none)) else (some (-1))
def z4_.l3:Nat→List ByteArray→Int→Int→List (S98)→Int→Int→ByteArray→Int→List (S42)→List (S161)→List (S98)→Int→Int→ByteArray→List Int→Option (Int)
 | 0,_,_,_,_,_,_,_,_,_,_,_,_,_,_,_=>none
 | k+1,x3,x9,x11,x63,x64,x65,x389000,x389001,x389002,x389003,x389004,x402000,x402001,x402002,x402003=>if 0≤(wrap64 ((x402003.length:Int)-1)) then (if (wrap64 ((x402003.length:Int)-1))<(x402003.length:Int) then (if x11≤(rd x402003 (wrap64 ((x402003.length:Int)-1))) then (if 0≤x11 then (if x11<(x389003.length:Int) then (if ((z2_ x389003 x11).f0)=1 then ((yl_.f k ((z2_ x389003 x11).f2) x3).bind fun t407=>(if t407=true then (z4_.l3 k x3 x9 (wrap64 (x11+1)) x63 x64 x65 x389000 x389001 x389002 x389003 x389004 x402000 x402001 x402002 x402003) else (some (wrap64 ((wrap64 ((x389002.length:Int)+x9))+1))))) else (z4_.l3 k x3 x9 (wrap64 (x11+1)) x63 x64 x65 x389000 x389001 x389002 x389003 x389004 x402000 x402001 x402002 x402003)) else (none)) else (none)) else (z4_.l2 k x3 x63 x64 (wrap64 (x65+1)) x389000 x389001 x389002 x389003 x389004)) else (none)) else (none)
end
def z4_.f (k:Nat) (a0_0:ByteArray) (a0_1:Int) (l0_2:List (S42)) (l0_3:List (S161)) (l0_4:List (S98)):Option (Int):=z4_.l0 k ([]:List ByteArray) l0_2 (l0_2.length:Int) 0 a0_0 a0_1 l0_2 l0_3 l0_4
theorem z4_.y6_:∀k,(∀y0 y1 y2 y3 y4 y5 y6 y7 y8,LeO (z4_.l0 k y0 y1 y2 y3 y4 y5 y6 y7 y8) (z4_.l0 (k+1) y0 y1 y2 y3 y4 y5 y6 y7 y8))∧(∀y0 y1 y2 y3 y4 y5 y6 y7 y8 y9 y10 y11 y12 y13 y14 y15 y16,LeO (z4_.l1 k y0 y1 y2 y3 y4 y5 y6 y7 y8 y9 y10 y11 y12 y13 y14 y15 y16) (z4_.l1 (k+1) y0 y1 y2 y3 y4 y5 y6 y7 y8 y9 y10 y11 y12 y13 y14 y15 y16))∧(∀y0 y1 y2 y3 y4 y5 y6 y7 y8 y9 y10 y11 y12 y13 y14 y15 y16 y17 y18 y19 y20 y21 y22 y23,LeO (z4_.j2 k y0 y1 y2 y3 y4 y5 y6 y7 y8 y9 y10 y11 y12 y13 y14 y15 y16 y17 y18 y19 y20 y21 y22 y23) (z4_.j2 (k+1) y0 y1 y2 y3 y4 y5 y6 y7 y8 y9 y10 y11 y12 y13 y14 y15 y16 y17 y18 y19 y20 y21 y22 y23))∧(∀y0 y1 y2 y3 y4 y5 y6 y7 y8,LeO (z4_.l2 k y0 y1 y2 y3 y4 y5 y6 y7 y8) (z4_.l2 (k+1) y0 y1 y2 y3 y4 y5 y6 y7 y8))∧(∀y0 y1 y2 y3 y4 y5 y6 y7 y8 y9 y10 y11 y12 y13 y14,LeO (z4_.l3 k y0 y1 y2 y3 y4 y5 y6 y7 y8 y9 y10 y11 y12 y13 y14) (z4_.l3 (k+1) y0 y1 y2 y3 y4 y5 y6 y7 y8 y9 y10 y11 y12 y13 y14))
 | 0=>⟨fun _ _ _ _ _ _ _ _ _ r h=>by simp [z4_.l0] at h,fun _ _ _ _ _ _ _ _ _ _ _ _ _ _ _ _ _ r h=>by simp [z4_.l1] at h,fun _ _ _ _ _ _ _ _ _ _ _ _ _ _ _ _ _ _ _ _ _ _ _ _ r h=>by simp [z4_.j2] at h,fun _ _ _ _ _ _ _ _ _ r h=>by simp [z4_.l2] at h,fun _ _ _ _ _ _ _ _ _ _ _ _ _ _ _ r h=>by simp [z4_.l3] at h⟩
 | k+1=>by
  obtain ⟨ih0,ih1,ih2,ih3,ih4⟩:=z4_.y6_ k;refine ⟨?_,?_,?_,?_,?_⟩
  ·intro y0 y1 y2 y3 y4 y5 y6 y7 y8;unfold z4_.l0
   repeat' with_reducible first|apply ih0|apply ih1|apply ih2|apply ih3|apply ih4|apply y1_.mono|apply yl_.mono|apply LeO.refl|apply LeO.none|refine LeO.ite ?_ ?_|refine LeO.bind ?_ (fun _=>?_)
  ·intro y0 y1 y2 y3 y4 y5 y6 y7 y8 y9 y10 y11 y12 y13 y14 y15 y16;unfold z4_.l1
   repeat' with_reducible first|apply ih0|apply ih1|apply ih2|apply ih3|apply ih4|apply y1_.mono|apply yl_.mono|apply LeO.refl|apply LeO.none|refine LeO.ite ?_ ?_|refine LeO.bind ?_ (fun _=>?_)
  ·intro y0 y1 y2 y3 y4 y5 y6 y7 y8 y9 y10 y11 y12 y13 y14 y15 y16 y17 y18 y19 y20 y21 y22 y23;unfold z4_.j2
   repeat' with_reducible first|apply ih0|apply ih1|apply ih2|apply ih3|apply ih4|apply y1_.mono|apply yl_.mono|apply LeO.refl|apply LeO.none|refine LeO.ite ?_ ?_|refine LeO.bind ?_ (fun _=>?_)
  ·intro y0 y1 y2 y3 y4 y5 y6 y7 y8;unfold z4_.l2
   repeat' with_reducible first|apply ih0|apply ih1|apply ih2|apply ih3|apply ih4|apply y1_.mono|apply yl_.mono|apply LeO.refl|apply LeO.none|refine LeO.ite ?_ ?_|refine LeO.bind ?_ (fun _=>?_)
  ·intro y0 y1 y2 y3 y4 y5 y6 y7 y8 y9 y10 y11 y12 y13 y14;unfold z4_.l3
   repeat' with_reducible first|apply ih0|apply ih1|apply ih2|apply ih3|apply ih4|apply y1_.mono|apply yl_.mono|apply LeO.refl|apply LeO.none|refine LeO.ite ?_ ?_|refine LeO.bind ?_ (fun _=>?_)
theorem z4_.mono:∀a0 a1 a2 a3 a4 k,LeO (z4_.f k a0 a1 a2 a3 a4) (z4_.f (k+1) a0 a1 a2 a3 a4):=by
 intro a0 a1 a2 a3 a4 k;obtain ⟨ih0,ih1,ih2,ih3,ih4⟩:=z4_.y6_ k;unfold z4_.f
 repeat' with_reducible first|apply ih0|apply ih1|apply ih2|apply ih3|apply ih4|apply y1_.mono|apply yl_.mono|apply LeO.refl|apply LeO.none|refine LeO.ite ?_ ?_|refine LeO.bind ?_ (fun _=>?_)
theorem ufdc_1 {p:Prop} (h:p:=by
 exact ⟨(wrap64 (x11_3+1)),mq_,H',⟨by have:=HK1.out;have:=HK2.out;have:=HK3.out;omega⟩,⟨(Kd.yk_ (mf_ HO_3 BK406) (fun _ hk=>trivial))⟩,⟨mc_ BK388⟩,⟨mc_ BK401⟩,⟨mb_ HB⟩⟩):p:=h
theorem ufdc_0 {p:Prop} (h:p:=by
 exact ⟨_,(false),mq_,H',⟨by have:=HK1.out;have:=HK2.out;first|omega|exact Nat.le_refl _⟩,⟨(Kd.yk_ (mf_ HO_3 BK395) (fun _ hk=>hk.1))⟩,⟨(Kd.yk_ (mf_ HO_6 BK395) (fun _ hk=>hk.1))⟩,⟨mc_ BK388⟩,⟨mc_ BK390⟩,⟨mp_ BK395⟩,⟨mb_ HB⟩⟩):p:=h
set_option maxHeartbeats 8000000 in
set_option maxRecDepth 100000 in
theorem z4_.calls (k:Nat) (a0_0:ByteArray) (a0_1:Int) (A0_2:Option Addr) (c0_2:Nat) (l0_2:List (S42)) (A0_3:Option Addr) (c0_3:Nat) (l0_3:List (S161)) (A0_4:Option Addr) (c0_4:Nat) (l0_4:List (S98)) (r:Int) (w:World) (hr0_2:Kd.C k42 w A0_2 l0_2.length l0_2) (hc0_2:l0_2.length≤c0_2) (hr0_3:Kd.C k161 w A0_3 l0_3.length l0_3) (hc0_3:l0_3.length≤c0_3) (hr0_4:Kd.C k98 w A0_4 l0_4.length l0_4) (hc0_4:l0_4.length≤c0_4) (h:z4_.f k a0_0 a0_1 l0_2 l0_3 l0_4=some r):
  Calls Tryz.prog 130 #[.agg #[.string a0_0,.int .i64 a0_1,.slice A0_2 l0_2.length c0_2,.slice A0_3 l0_3.length c0_3,.slice A0_4 l0_4.length c0_4]] w fun e w'=>e=.returned (.int .i64 r)∧Below w.heap.size w w':=by
 have hu39:=Tryz.underlying39;have hu42:=Tryz.underlying42;have hu86:=Tryz.underlying86;have hu98:=Tryz.underlying98;have hu161:=Tryz.underlying161;have HR0_2:=a_ hr0_2;have HC0_2:=a_ hc0_2;clear hr0_2 hc0_2;have HR0_3:=a_ hr0_3;have HC0_3:=a_ hc0_3;clear hr0_3 hc0_3;have HR0_4:=a_ hr0_4;have HC0_4:=a_ hc0_4;clear hr0_4 hc0_4;have HB:=a_ (Below.refl w.heap.size w);have H:(z4_.l0 k ([]:List ByteArray) l0_2 (l0_2.length:Int) 0 a0_0 a0_1 l0_2 l0_3 l0_4)=some r:=h
 clear h;have H':=a_ H;clear H;go_enter Tryz.func130,Tryz.ntmps130;iterate 3 (go_wp2_with (first|((with_reducible refine zl_ (N:=1) rfl ?_);refine bh_ 1 #[.string a0_0,.int .i64 a0_1,.slice A0_2 l0_2.length c0_2,.slice A0_3 l0_3.length c0_3,.slice A0_4 l0_4.length c0_4] 39 HB ?_;intro gb388 hg w2 BK388 GE388 hb;replace HB:=ms_ HB hb;clear hb hg;replace hz388:=cz5 BK388));try go_quiet (fail))
 go_loopg [3,16] k (fun kq v3 v16 w'=>∃(x3_1:List ByteArray) (x16_1:Int),v16=.int .i64 x16_1∧z0_ (z4_.l0 kq x3_1 l0_2 (l0_2.length:Int) x16_1 a0_0 a0_1 l0_2 l0_3 l0_4=some r)∧z0_ (kq≤k)∧z0_ (Kd.R Kd.string 9 w' w.heap.size (fun _=>True) v3 x3_1)∧z0_ (w'.heap[gb388]?=some (.cells #[.string a0_0,.int .i64 a0_1,(.slice A0_2 l0_2.length c0_2),(.slice A0_3 l0_3.length c0_3),(.slice A0_4 l0_4.length c0_4)] 39 (0,0)))∧z0_ (Below w.heap.size w w'))
 case atStart=>exact ⟨(([]:List ByteArray)),(0),mq_,H',⟨Nat.le_refl _⟩,⟨by first|exact Kd.R_nil _ _ _ _ _|exact Kd.N_nil _ _ _ _ _|exact Kd.V_nil _ _ _ _ _|exact Kd.Q_nil _ _ _ _ _|exact Kd.S_nil _ _ _ _ _⟩,⟨mc_ BK388⟩,⟨mb_ HB⟩⟩
 clear H';(try clear hz388);obtain ⟨x3_1,x16_1,rfl,HA,HK1,HO_3,BK388,HB⟩:=hrel;obtain _|k1:=gk
 ·exact absurd HA.out (by simp [z4_.l0])
 have H:=HA.out;clear HA;simp only [z4_.l0] at H;by_cases c4:x16_1<(l0_2.length:Int)
 ·rw [if_pos c4] at H;have c4b0:=ct_ c4;clear c4;by_cases c5:0≤x16_1
  case neg=>
   rw [if_neg c5] at H;cases H
  rw [if_pos c5] at H;have c5b0:=ct_ c5;clear c5;by_cases c6:x16_1<(l0_2.length:Int)
  case neg=>
   rw [if_neg c6] at H;cases H
  rw [if_pos c6] at H;have c6b0:=ct_ c6;clear c6;by_cases c7:([]:List ByteArray).length+x3_1.length<8796093022208
  case neg=>
   rw [if_neg c7] at H;cases H
  rw [if_pos c7] at H;have LMc7:=a_ c7;clear c7;obtain ⟨y391,hy391⟩:∃y_:List ByteArray,y_=(([]:List ByteArray)++x3_1):=⟨_,rfl⟩;rw [←hy391] at H;(try rw [Option.bind_some] at H);have Ny391:=a_ hy391;clear hy391;have H':=a_ H;clear H;have p389:0≤(x16_1:Int):=md_
  have q389:x16_1<(l0_2.length:Int):=md_
  obtain ⟨ad389,A389_2,c389_2,e389,hx389_0,hx389_1,hx389_2,hl389_2,hi389_2⟩:=at_T42 HR0_2.out x16_1 p389 q389;cases e389;replace hx389_0:=mx_ HB hx389_0;replace hx389_1:=mx_ HB hx389_1;replace hx389_2:=mx_ HB hx389_2;have HR389_2:=a_ hi389_2;have HC389_2:=a_ hl389_2;clear hi389_2 hl389_2;replace p389:=eq_true p389;replace q389:=eq_true q389;iterate 3 (go_wp2_with (first|((with_reducible refine zl_ (N:=5) rfl ?_);refine bh_ 5 #[.bool false,.string (⟨#[]⟩:ByteArray),.slice none 0 0] 42 HB ?_;intro gb390 hg w8 BK390 GE390 hb;obtain ⟨NB388_390,NB390_388⟩:=mn_ BK388 hg;replace HO_3:=ro_ HO_3 hb;replace BK388:=mk_ BK388 hb;replace HB:=ms_ HB hb;clear hb hg;have nNB390_388:=NB390_388.out;have nNB388_390:=NB388_390.out;replace hz390:=cz3 BK390;obtain ⟨Ao12,co12,eo12⟩:=Kd.yv_ HO_3.out;subst eo12)|((with_reducible refine gate_builtin (b:=.append) (xs:=#[.tmp 21,.tmp 22]) rfl ?_);at_builtin;refine Kd.R_append_rows Kd.string (w0:=w) w.heap.size rfl (.tmp 21) (.tmp 22) 147 9 (.string ⟨#[]⟩) 16 rfl Tryz.underlying147 info9 rfl (by decide) (by omega) (.slice none 0 0) ([]:List ByteArray) x3_1 _ _ _ (fun k_=>some k_≠(.slice Ao12 x3_1.length co12:Value).ownBlock) (fun _=>False) rfl rfl ?aO ?aR (fun _ _ h=>h) (fun _ h=>h.elim) ?aF ?aB ?aS ?aL ?_;(case aR=>refine (Kd.yb_ (e:=9) (base:=w.heap.size) (ok:=fun k_=>True) (n:=x3_1.length) (c:=co12) ?_).2.2;exact ((Kd.yk_ (mf_ HO_3 BK390) (fun _ h_=>h_.1))));(case aB=>exact (mb_ HB));(case aF=>exact (fun k_ hk=>Kd.fresh' (Kd.R_lt ((Kd.yk_ (mf_ HO_3 BK390) (fun _ h_=>h_.1)))) k_ hk));(case aO=>exact ((Kd.R_nil _ _ _ _ (fun k_=>some k_≠(.slice Ao12 x3_1.length co12:Value).ownBlock))));(case aS=>exact (zw_ (mb_ HB)));(case aL=>have:=LMc7.out;omega);intro v392 w11 ho hb hg hat;rw [←Ny391.out] at ho;have HO393:=a_ (ho);replace HO_3:=a_ (Kd.R_after (Kd.R_apart_nil ((Kd.yk_ (mf_ HO_3 BK390) (fun _ h_=>h_.1)))) hg hat);replace BK388:=a_ (zk_ (mc_ BK388) hg (by simp [Value.ownBlock]));replace BK390:=a_ (zk_ (g:=gb390) (o:=.cells #[.bool ((zq_ l0_2 x16_1).f0),.string ((zq_ l0_2 x16_1).f1),.slice A389_2 ((zq_ l0_2 x16_1).f2).length c389_2] 42 (0,0)) (mp_ BK390) hg (by simp [Value.ownBlock]));replace HB:=a_ (hb);clear ho hb hg hat;replace hz390:=cz3 BK390));try go_quiet (fail))
  go_loopg [6,27] k1 (fun kq v6 v27 w'=>∃(x6_2:List ByteArray) (x27_2:Int),v27=.int .i64 x27_2∧z0_ (z4_.l1 kq x3_1 x16_1 x6_2 l0_2 (l0_2.length:Int) x16_1 ((zq_ l0_2 x16_1).f2) (((zq_ l0_2 x16_1).f2).length:Int) x27_2 a0_0 a0_1 l0_2 l0_3 l0_4 ((zq_ l0_2 x16_1).f0) ((zq_ l0_2 x16_1).f1) ((zq_ l0_2 x16_1).f2)=some r)∧z0_ (kq≤k1)∧z0_ (Kd.R Kd.string 9 w' w.heap.size (fun k_=>some k_≠(v6:Value).ownBlock) (.slice Ao12 x3_1.length co12) x3_1)∧z0_ (Kd.R Kd.string 9 w' w.heap.size (fun k_=>some k_≠((.slice Ao12 x3_1.length co12):Value).ownBlock) v6 x6_2)∧z0_ (w'.heap[gb388]?=some (.cells #[.string a0_0,.int .i64 a0_1,(.slice (some ad389) l0_2.length c0_2),(.slice A0_3 l0_3.length c0_3),(.slice A0_4 l0_4.length c0_4)] 39 (0,0)))∧z0_ (w'.heap[gb390]?=some (.cells #[.bool ((zq_ l0_2 x16_1).f0),.string ((zq_ l0_2 x16_1).f1),(.slice A389_2 ((zq_ l0_2 x16_1).f2).length c389_2)] 42 (0,0)))∧z0_ (Below w.heap.size w w'))
  case atStart=>exact ⟨(y391),(0),mq_,H',⟨Nat.le_refl _⟩,⟨mo_ (Kd.yk_ HO_3.out (fun _ hk=>hk.2))⟩,⟨mo_ HO393.out⟩,⟨mc_ BK388⟩,⟨mc_ BK390⟩,⟨mb_ HB⟩⟩
  clear H';(try clear c4b0);(try clear c5b0);(try clear c6b0);(try clear hx389_0);(try clear hx389_1);(try clear hx389_2);(try clear p389);(try clear q389);obtain ⟨x6_2,x27_2,rfl,HA,HK2,HO_3,HO_6,BK388,BK390,HB⟩:=hrel;obtain _|k2:=gk
  ·exact absurd HA.out (by simp [z4_.l1])
  have H:=HA.out;clear HA;simp only [z4_.l1] at H;by_cases c14:x27_2<(((zq_ l0_2 x16_1).f2).length:Int)
  ·rw [if_pos c14] at H;have c14b0:=ct_ c14;clear c14;by_cases c15:0≤x27_2
   case neg=>
    rw [if_neg c15] at H;cases H
   rw [if_pos c15] at H;have c15b0:=ct_ c15;clear c15;by_cases c16:x27_2<(((zq_ l0_2 x16_1).f2).length:Int)
   case neg=>
    rw [if_neg c16] at H;cases H
   rw [if_pos c16] at H;have c16b0:=ct_ c16;clear c16;have HC17:=a_ H;clear H;have p394:0≤(x27_2:Int):=md_
   have q394:x27_2<(((zq_ l0_2 x16_1).f2).length:Int):=md_
   obtain ⟨ad394,e394,hx394_0,hx394_1,hx394_2,hx394_3,hx394_4,hx394_5⟩:=at_T86 HR389_2.out x27_2 p394 q394;cases e394;replace hx394_0:=mx_ HB hx394_0;replace hx394_1:=mx_ HB hx394_1;replace hx394_2:=mx_ HB hx394_2;replace hx394_3:=mx_ HB hx394_3;replace hx394_4:=mx_ HB hx394_4;replace hx394_5:=mx_ HB hx394_5;replace p394:=eq_true p394;replace q394:=eq_true q394;go_upto_region 10 with (first|((with_reducible refine zl_ (N:=8) rfl ?_);refine bh_ 8 #[.int .i64 0,.int .i64 0,.string (⟨#[]⟩:ByteArray),.int .i64 0,.int .i64 0,.string (⟨#[]⟩:ByteArray)] 86 HB ?_;intro gb395 hg w18 BK395 GE395 hb;obtain ⟨NB388_395,NB395_388⟩:=mn_ BK388 hg;obtain ⟨NB390_395,NB395_390⟩:=mn_ BK390 hg;replace HO_3:=ro_ HO_3 hb;replace HO_6:=ro_ HO_6 hb;replace BK388:=mk_ BK388 hb;replace BK390:=mk_ BK390 hb;replace HB:=ms_ HB hb;clear hb hg;have nNB395_388:=NB395_388.out;have nNB388_395:=NB388_395.out;have nNB395_390:=NB395_390.out;have nNB390_395:=NB390_395.out;replace hz395:=cz6 BK395));repeat (go_quiet (first|((with_reducible refine zl_ (N:=8) rfl ?_);refine bh_ 8 #[.int .i64 0,.int .i64 0,.string (⟨#[]⟩:ByteArray),.int .i64 0,.int .i64 0,.string (⟨#[]⟩:ByteArray)] 86 HB ?_;intro gb395 hg w18 BK395 GE395 hb;obtain ⟨NB388_395,NB395_388⟩:=mn_ BK388 hg;obtain ⟨NB390_395,NB395_390⟩:=mn_ BK390 hg;replace HO_3:=ro_ HO_3 hb;replace HO_6:=ro_ HO_6 hb;replace BK388:=mk_ BK388 hb;replace BK390:=mk_ BK390 hb;replace HB:=ms_ HB hb;clear hb hg;have nNB395_388:=NB395_388.out;have nNB388_395:=NB388_395.out;have nNB395_390:=NB395_390.out;have nNB390_395:=NB390_395.out;replace hz395:=cz6 BK395));go_upto_region 10 with (first|((with_reducible refine zl_ (N:=8) rfl ?_);refine bh_ 8 #[.int .i64 0,.int .i64 0,.string (⟨#[]⟩:ByteArray),.int .i64 0,.int .i64 0,.string (⟨#[]⟩:ByteArray)] 86 HB ?_;intro gb395 hg w18 BK395 GE395 hb;obtain ⟨NB388_395,NB395_388⟩:=mn_ BK388 hg;obtain ⟨NB390_395,NB395_390⟩:=mn_ BK390 hg;replace HO_3:=ro_ HO_3 hb;replace HO_6:=ro_ HO_6 hb;replace BK388:=mk_ BK388 hb;replace BK390:=mk_ BK390 hb;replace HB:=ms_ HB hb;clear hb hg;have nNB395_388:=NB395_388.out;have nNB388_395:=NB388_395.out;have nNB395_390:=NB395_390.out;have nNB390_395:=NB390_395.out;replace hz395:=cz6 BK395)))
   (try simp only [Act.put,List.setIfInBounds_toArray,List.set_cons_zero,List.set_cons_succ]);go_cut [45] (fun v45 wc=>∃(kq:Nat) (x45_16:Bool),v45=.bool x45_16∧z0_ (z4_.j2 kq x3_1 x16_1 x6_2 l0_2 (l0_2.length:Int) x16_1 ((zq_ l0_2 x16_1).f2) (((zq_ l0_2 x16_1).f2).length:Int) x27_2 x45_16 a0_0 a0_1 l0_2 l0_3 l0_4 ((zq_ l0_2 x16_1).f0) ((zq_ l0_2 x16_1).f1) ((zq_ l0_2 x16_1).f2) ((z6_ ((zq_ l0_2 x16_1).f2) x27_2).f0) ((z6_ ((zq_ l0_2 x16_1).f2) x27_2).f1) ((z6_ ((zq_ l0_2 x16_1).f2) x27_2).f2) ((z6_ ((zq_ l0_2 x16_1).f2) x27_2).f3.f0) ((z6_ ((zq_ l0_2 x16_1).f2) x27_2).f3.f1) ((z6_ ((zq_ l0_2 x16_1).f2) x27_2).f3.f2)=some r)∧z0_ (kq≤k2)∧z0_ (Kd.R Kd.string 9 wc w.heap.size (fun k_=>some k_≠(u6:Value).ownBlock) (.slice Ao12 x3_1.length co12) x3_1)∧z0_ (Kd.R Kd.string 9 wc w.heap.size (fun k_=>some k_≠((.slice Ao12 x3_1.length co12):Value).ownBlock) u6 x6_2)∧z0_ (wc.heap[gb388]?=some (.cells #[.string a0_0,.int .i64 a0_1,(.slice (some ad389) l0_2.length c0_2),(.slice A0_3 l0_3.length c0_3),(.slice A0_4 l0_4.length c0_4)] 39 (0,0)))∧z0_ (wc.heap[gb390]?=some (.cells #[.bool ((zq_ l0_2 x16_1).f0),.string ((zq_ l0_2 x16_1).f1),(.slice (some ad394) ((zq_ l0_2 x16_1).f2).length c389_2)] 42 (0,0)))∧z0_ (wc.heap[gb395]?=some (.cells #[.int .i64 ((z6_ ((zq_ l0_2 x16_1).f2) x27_2).f0),.int .i64 ((z6_ ((zq_ l0_2 x16_1).f2) x27_2).f1),.string ((z6_ ((zq_ l0_2 x16_1).f2) x27_2).f2),.int .i64 ((z6_ ((zq_ l0_2 x16_1).f2) x27_2).f3.f0),.int .i64 ((z6_ ((zq_ l0_2 x16_1).f2) x27_2).f3.f1),.string ((z6_ ((zq_ l0_2 x16_1).f2) x27_2).f3.f2)] 86 (0,0)))∧z0_ (Below w.heap.size w wc))
   case first=>
    have H:=HC17.out;clear HC17;by_cases c22:((z6_ ((zq_ l0_2 x16_1).f2) x27_2).f0)=3
    ·rw [if_pos c22] at H;obtain ⟨c22b0,c22b1⟩:=bq_ c22;clear c22;(first|rw [c22b0]|(simp only [i64_w,i32_w];rw [c22b0])|skip);by_cases c23:((z6_ ((zq_ l0_2 x16_1).f2) x27_2).f2).toList=([]:List UInt8)
     ·rw [if_pos c23] at H;obtain ⟨c23b0,c23b1⟩:=bq_ c23;clear c23;have H':=a_ H;clear H;have nNB395_388:=NB395_388.out;have nNB388_395:=NB388_395.out;have nNB395_390:=NB395_390.out;have nNB390_395:=NB390_395.out;replace hz395:=cz6 BK395;go_wp2;repeat (go_quiet (fail);try go_wp2)
      go_meet
      case rel=>exact ufdc_0
     ·rw [if_neg c23] at H;obtain ⟨c23b0,c23b1⟩:=bn_ c23;obtain ⟨t396,A27,H⟩:=ob_ H;have H':=a_ H;clear H;have nNB395_388:=NB395_388.out;have nNB388_395:=NB388_395.out;have nNB395_390:=NB395_390.out;have nNB390_395:=NB390_395.out;replace hz395:=cz6 BK395;obtain ⟨Ao31,co31,eo31⟩:=Kd.yv_ HO_6.out;subst eo31;go_wp2_with (first|(go_at_call 161;(with_reducible refine (yl_.calls k2 ((z6_ ((zq_ l0_2 x16_1).f2) x27_2).f2) _ _ x6_2 t396 _ ?side1 ?side2 A27.out).mono ?_);(case side1=>refine (Kd.yb_ (e:=9) (base:=w.heap.size) (ok:=fun k_=>some k_≠(.slice Ao12 x3_1.length co12:Value).ownBlock) (n:=x6_2.length) (c:=co31) ?_).2.2;exact ((Kd.yk_ (mf_ HO_6 BK395) (fun _ h_=>h_.1))));(case side2=>exact (Kd.yb_ HO_6.out).2.1);rintro e w' ⟨rfl,⟨nd,rfl⟩⟩;(try first|exact ⟨rfl,_,World.drewN_drewN _ _ _⟩|exact ⟨rfl,_,Eq.trans (World.drewN_drewN _ _ _) (congrArg (World.drewN _) (Nat.add_assoc _ _ _))⟩)));repeat (go_quiet (first|(go_at_call 161;(with_reducible refine (yl_.calls k2 ((z6_ ((zq_ l0_2 x16_1).f2) x27_2).f2) _ _ x6_2 t396 _ ?side1 ?side2 A27.out).mono ?_);(case side1=>refine (Kd.yb_ (e:=9) (base:=w.heap.size) (ok:=fun k_=>some k_≠(.slice Ao12 x3_1.length co12:Value).ownBlock) (n:=x6_2.length) (c:=co31) ?_).2.2;exact ((Kd.yk_ (mf_ HO_6 BK395) (fun _ h_=>h_.1))));(case side2=>exact (Kd.yb_ HO_6.out).2.1);rintro e w' ⟨rfl,⟨nd,rfl⟩⟩;(try first|exact ⟨rfl,_,World.drewN_drewN _ _ _⟩|exact ⟨rfl,_,Eq.trans (World.drewN_drewN _ _ _) (congrArg (World.drewN _) (Nat.add_assoc _ _ _))⟩)));try go_wp2_with (first|(go_at_call 161;(with_reducible refine (yl_.calls k2 ((z6_ ((zq_ l0_2 x16_1).f2) x27_2).f2) _ _ x6_2 t396 _ ?side1 ?side2 A27.out).mono ?_);(case side1=>refine (Kd.yb_ (e:=9) (base:=w.heap.size) (ok:=fun k_=>some k_≠(.slice Ao12 x3_1.length co12:Value).ownBlock) (n:=x6_2.length) (c:=co31) ?_).2.2;exact ((Kd.yk_ (mf_ HO_6 BK395) (fun _ h_=>h_.1))));(case side2=>exact (Kd.yb_ HO_6.out).2.1);rintro e w' ⟨rfl,⟨nd,rfl⟩⟩;(try first|exact ⟨rfl,_,World.drewN_drewN _ _ _⟩|exact ⟨rfl,_,Eq.trans (World.drewN_drewN _ _ _) (congrArg (World.drewN _) (Nat.add_assoc _ _ _))⟩))))
      go_meet
      case rel=>exact ⟨_,(!t396),mq_,H',⟨by have:=HK1.out;have:=HK2.out;first|omega|exact Nat.le_refl _⟩,⟨(Kd.yk_ (mf_ HO_3 BK395) (fun _ hk=>hk.1))⟩,⟨(Kd.yk_ (mf_ HO_6 BK395) (fun _ hk=>hk.1))⟩,⟨mc_ BK388⟩,⟨mc_ BK390⟩,⟨mp_ BK395⟩,⟨mb_ HB⟩⟩
    ·rw [if_neg c22] at H;obtain ⟨c22b0,c22b1⟩:=bn_ c22;(first|rw [c22b0]|(simp only [i64_w,i32_w];rw [c22b0])|skip);have H':=a_ H;clear H;have nNB395_388:=NB395_388.out;have nNB388_395:=NB388_395.out;have nNB395_390:=NB395_390.out;have nNB390_395:=NB390_395.out;replace hz395:=cz6 BK395;go_wp2;repeat (go_quiet (fail);try go_wp2)
     go_meet
     case rel=>exact ufdc_0
   clear HC17;(try clear c14b0);(try clear c15b0);(try clear c16b0);(try clear hx394_0);(try clear hx394_1);(try clear hx394_2);(try clear hx394_3);(try clear hx394_4);(try clear hx394_5);(try clear p394);(try clear q394);obtain ⟨kq,x45_16,rfl,HA,HJ16,HO_3,HO_6,BK388,BK390,BK395,HB⟩:=hcut;obtain _|kj16:=kq
   ·exact absurd HA.out (by simp [z4_.j2])
   have H:=HA.out;clear HA;simp only [z4_.j2] at H;by_cases c35:x45_16=true
   ·subst c35;rw [if_pos rfl] at H;obtain rfl:=oi_ H;go_wp2;repeat (go_quiet (fail);try go_wp2)
    go_ret;exact ⟨me_,mb_ HB⟩
   ·replace c35:=Bool.eq_false_iff.mpr c35;subst c35;rw [if_neg (show ¬(false=true) by decide)] at H;by_cases c36:((z6_ ((zq_ l0_2 x16_1).f2) x27_2).f0)=2
    ·rw [if_pos c36] at H;obtain ⟨c36b0,c36b1⟩:=bq_ c36;clear c36;by_cases c37:x6_2.length<8796093022208
     case neg=>
      rw [if_neg c37] at H;cases H
     rw [if_pos c37] at H;have LMc37:=a_ c37;clear c37;obtain ⟨y397,hy397⟩:∃y_:List ByteArray,y_=(x6_2++[((z6_ ((zq_ l0_2 x16_1).f2) x27_2).f2)]):=⟨_,rfl⟩;rw [←hy397] at H;(try rw [Option.bind_some] at H);have Ny397:=a_ hy397;clear hy397;have H':=a_ H;clear H;have nNB395_388:=NB395_388.out;have nNB388_395:=NB388_395.out;have nNB395_390:=NB395_390.out;have nNB390_395:=NB390_395.out;replace hz395:=cz6 BK395;iterate 3 (go_wp2_with (first|((with_reducible refine gate_builtin (b:=.append) (xs:=#[.tmp 51,.tmp 54]) rfl ?_);at_builtin;refine Kd.R_append Kd.string (w0:=w) w.heap.size rfl (.tmp 51) (.tmp 54) 147 9 (.string ⟨#[]⟩) 16 rfl Tryz.underlying147 info9 rfl (by decide) (by omega) u6 x6_2 ((z6_ ((zq_ l0_2 x16_1).f2) x27_2).f2) [.string ((z6_ ((zq_ l0_2 x16_1).f2) x27_2).f2)] (fun k_=>some k_≠(.slice Ao12 x3_1.length co12:Value).ownBlock) (fun _=>False) rfl rfl ?aP (fun _ hk=>hk.elim) ?aF ?aO ?aB ?aS ?aL ?_;(case aP=>exact rfl);(case aB=>exact (mb_ HB));(case aF=>exact (fun k_ hk=>Kd.fresh' (Kd.R_lt (mo_ HO_3.out)) k_ hk));(case aO=>exact (mo_ HO_6.out));(case aS=>exact (zw_ (mb_ HB)));(case aL=>have:=LMc37.out;omega);intro v398 w41 ho hb hg hat;rw [←Ny397.out] at ho;have HO399:=a_ (ho);replace HO_3:=a_ (Kd.R_after (ok:=(fun _=>True)) (mo_ (Kd.yk_ HO_3.out (fun _ hk=>⟨trivial,hk⟩))) hg hat);replace BK388:=a_ (zk_ (mc_ BK388) hg (Kd.R_ne HO_6.out BK388.out (by decide)));replace BK390:=a_ (zk_ (mc_ BK390) hg (Kd.R_ne HO_6.out BK390.out (by decide)));replace BK395:=a_ (zk_ (mc_ BK395) hg (Kd.R_ne HO_6.out BK395.out (by decide)));replace HB:=a_ (hb);clear HO_6;clear ho hb hg hat));try go_quiet (fail))
     go_roundg kj16
     case measure=>
      have:=HK1.out
      have:=HK2.out
      have:=HJ16.out
      omega
     case rel=>exact ⟨(y397),(wrap64 (x27_2+1)),mq_,H',⟨by have:=HK1.out;have:=HK2.out;have:=HJ16.out;omega⟩,⟨mo_ (Kd.yk_ HO_3.out (fun _ hk=>hk.2))⟩,⟨mo_ HO399.out⟩,⟨mc_ BK388⟩,⟨mc_ BK390⟩,⟨mb_ HB⟩⟩
    ·rw [if_neg c36] at H;obtain ⟨c36b0,c36b1⟩:=bn_ c36;have H':=a_ H;clear H;have nNB395_388:=NB395_388.out;have nNB388_395:=NB388_395.out;have nNB395_390:=NB395_390.out;have nNB390_395:=NB390_395.out;replace hz395:=cz6 BK395;go_wp2;repeat (go_quiet (fail);try go_wp2)
     go_roundg kj16
     case measure=>
      have:=HK1.out
      have:=HK2.out
      have:=HJ16.out
      omega
     case rel=>exact ⟨(x6_2),(wrap64 (x27_2+1)),mq_,H',⟨by have:=HK1.out;have:=HK2.out;have:=HJ16.out;omega⟩,⟨mo_ HO_3.out⟩,⟨mo_ HO_6.out⟩,⟨mc_ BK388⟩,⟨mc_ BK390⟩,⟨mb_ HB⟩⟩
  ·rw [if_neg c14] at H;have c14b0:=cf_ c14;clear c14;by_cases c45:((zq_ l0_2 x16_1).f0)=true
   ·rw [if_pos c45] at H;have c45b0:((zq_ l0_2 x16_1).f0)=true:=c45
    clear c45;have H':=a_ H;clear H;have nNB390_388:=NB390_388.out;have nNB388_390:=NB388_390.out;replace hz390:=cz3 BK390;go_wp2;repeat (go_quiet (fail);try go_wp2)
    go_roundg k2
    case measure=>
     have:=HK1.out
     have:=HK2.out
     omega
    case rel=>exact ⟨(x3_1),(wrap64 (x16_1+1)),mq_,H',⟨by have:=HK1.out;have:=HK2.out;omega⟩,⟨mo_ (Kd.yk_ HO_3.out (fun _ hk=>trivial))⟩,⟨mc_ BK388⟩,⟨mb_ HB⟩⟩
   ·rw [if_neg c45] at H;have c45b0:((zq_ l0_2 x16_1).f0)=false:=by simpa using c45
    clear c45;have H':=a_ H;clear H;have nNB390_388:=NB390_388.out;have nNB388_390:=NB388_390.out;replace hz390:=cz3 BK390;go_wp2;repeat (go_quiet (fail);try go_wp2)
    go_roundg k2
    case measure=>
     have:=HK1.out
     have:=HK2.out
     omega
    case rel=>exact ⟨(x6_2),(wrap64 (x16_1+1)),mq_,H',⟨by have:=HK1.out;have:=HK2.out;omega⟩,⟨mo_ (Kd.yk_ HO_6.out (fun _ hk=>trivial))⟩,⟨mc_ BK388⟩,⟨mb_ HB⟩⟩
 ·rw [if_neg c4] at H;have c4b0:=cf_ c4;clear c4;have H':=a_ H;clear H;replace hz388:=cz5 BK388;go_wp2;repeat (go_quiet (fail);try go_wp2)
  go_loopg [65] k1 (fun kq v65 w'=>∃(x65_2:Int),v65=.int .i64 x65_2∧z0_ (z4_.l2 kq x3_1 l0_4 (l0_4.length:Int) x65_2 a0_0 a0_1 l0_2 l0_3 l0_4=some r)∧z0_ (kq≤k1)∧z0_ (Kd.R Kd.string 9 w' w.heap.size (fun _=>True) u3 x3_1)∧z0_ (w'.heap[gb388]?=some (.cells #[.string a0_0,.int .i64 a0_1,(.slice A0_2 l0_2.length c0_2),(.slice A0_3 l0_3.length c0_3),(.slice A0_4 l0_4.length c0_4)] 39 (0,0)))∧z0_ (Below w.heap.size w w'))
  case atStart=>exact ⟨(0),mq_,H',⟨Nat.le_refl _⟩,⟨mo_ HO_3.out⟩,⟨mc_ BK388⟩,⟨mb_ HB⟩⟩
  clear H';(try clear c4b0);obtain ⟨x65_2,rfl,HA,HK2,HO_3,BK388,HB⟩:=hrel;obtain _|k2:=gk
  ·exact absurd HA.out (by simp [z4_.l2])
  have H:=HA.out;clear HA;simp only [z4_.l2] at H;by_cases c51:x65_2<(l0_4.length:Int)
  ·rw [if_pos c51] at H;have c51b0:=ct_ c51;clear c51;by_cases c52:0≤x65_2
   case neg=>
    rw [if_neg c52] at H;cases H
   rw [if_pos c52] at H;have c52b0:=ct_ c52;clear c52;by_cases c53:x65_2<(l0_4.length:Int)
   case neg=>
    rw [if_neg c53] at H;cases H
   rw [if_pos c53] at H;have c53b0:=ct_ c53;clear c53;by_cases c54:(((y3_ l0_4 x65_2).f3).length:Int)=0
   ·rw [if_pos c54] at H;obtain ⟨c54b0,c54b1⟩:=bq_ c54;clear c54;have H':=a_ H;clear H;have p400:0≤(x65_2:Int):=md_
    have q400:x65_2<(l0_4.length:Int):=md_
    obtain ⟨ad400,A400_3,c400_3,e400,hx400_0,hx400_1,hx400_2,hx400_3,hl400_3,hi400_3⟩:=at_T98 HR0_4.out x65_2 p400 q400;cases e400;replace hx400_0:=mx_ HB hx400_0;replace hx400_1:=mx_ HB hx400_1;replace hx400_2:=mx_ HB hx400_2;replace hx400_3:=mx_ HB hx400_3;have HR400_3:=a_ hi400_3;have HC400_3:=a_ hl400_3;clear hi400_3 hl400_3;replace p400:=eq_true p400;replace q400:=eq_true q400;iterate 3 (go_wp2_with (first|((with_reducible refine zl_ (N:=10) rfl ?_);refine bh_ 10 #[.int .i64 0,.int .i64 0,.string (⟨#[]⟩:ByteArray),.slice none 0 0] 98 HB ?_;intro gb401 hg w55 BK401 GE401 hb;have GW401:=mg_ HB hg;obtain ⟨NB388_401,NB401_388⟩:=mn_ BK388 hg;replace HO_3:=ro_ HO_3 hb;replace BK388:=mk_ BK388 hb;replace HB:=ms_ HB hb;clear hb hg;have nNB401_388:=NB401_388.out;have nNB388_401:=NB388_401.out;replace hz401:=cz4 BK401));try go_quiet (fail))
    go_roundg k2
    case measure=>
     have:=HK1.out
     have:=HK2.out
     omega
    case rel=>exact ⟨(wrap64 (x65_2+1)),mq_,H',⟨by have:=HK1.out;have:=HK2.out;omega⟩,⟨(Kd.yk_ (mf_ HO_3 BK401) (fun _ hk=>trivial))⟩,⟨mc_ BK388⟩,⟨mb_ HB⟩⟩
   ·rw [if_neg c54] at H;obtain ⟨c54b0,c54b1⟩:=bn_ c54;have c54b2:¬(((y3_ l0_4 x65_2).f3)=[]):=fun h_=>c54 (by rw [h_];rfl)
    by_cases c58:0<(((y3_ l0_4 x65_2).f3).length:Int)
    case neg=>
     rw [if_neg c58] at H;cases H
    rw [if_pos c58] at H;have c58b0:=ct_ c58;have c58b1:decide (0<((y3_ l0_4 x65_2).f3).length)=true:=decide_eq_true (by omega)
    clear c58;obtain ⟨t403,A59,H⟩:=ob_ H;have H':=a_ H;clear H;have p400:0≤(x65_2:Int):=md_
    have q400:x65_2<(l0_4.length:Int):=md_
    obtain ⟨ad400,A400_3,c400_3,e400,hx400_0,hx400_1,hx400_2,hx400_3,hl400_3,hi400_3⟩:=at_T98 HR0_4.out x65_2 p400 q400;cases e400;replace hx400_0:=mx_ HB hx400_0;replace hx400_1:=mx_ HB hx400_1;replace hx400_2:=mx_ HB hx400_2;replace hx400_3:=mx_ HB hx400_3;have HR400_3:=a_ hi400_3;have HC400_3:=a_ hl400_3;clear hi400_3 hl400_3;replace p400:=eq_true p400;replace q400:=eq_true q400;iterate 3 (go_wp2_with (first|((with_reducible refine zl_ (N:=10) rfl ?_);refine bh_ 10 #[.int .i64 0,.int .i64 0,.string (⟨#[]⟩:ByteArray),.slice none 0 0] 98 HB ?_;intro gb401 hg w60 BK401 GE401 hb;have GW401:=mg_ HB hg;obtain ⟨NB388_401,NB401_388⟩:=mn_ BK388 hg;replace HO_3:=ro_ HO_3 hb;replace BK388:=mk_ BK388 hb;replace HB:=ms_ HB hb;clear hb hg;have nNB401_388:=NB401_388.out;have nNB388_401:=NB388_401.out;replace hz401:=cz4 BK401;replace hz388:=cz5 BK388;have p402:0≤(0:Int):=(by omega);have q402:0<(((y3_ l0_4 x65_2).f3).length:Int):=md_;obtain ⟨ad402,e402,hx402_0⟩:=Kd.at_int HR400_3.out 0 p402 q402;cases e402;have qi402:(0<((y3_ l0_4 x65_2).f3).length)=True:=eq_true (by omega);(try rw [show ((0:Int)).toNat=0 from rfl] at hx402_0);(try rw [Addr.add_zero'] at hx402_0);have hn402_0:ad402.block≠gb401:=Nat.ne_of_lt (Nat.lt_of_lt_of_le (by have:=World.block_lt_of_cell? _ _ hx402_0;first|rwa [add_block] at this|exact this) GW401.out);have hn402_1:ad402.block≠gb401:=Nat.ne_of_lt (Nat.lt_of_lt_of_le (by have:=World.block_lt_of_cell? _ _ hx402_0;first|rwa [add_block] at this|exact this) GW401.out);have hn402_2:ad402.block≠gb401:=Nat.ne_of_lt (Nat.lt_of_lt_of_le (by have:=World.block_lt_of_cell? _ _ hx402_0;first|rwa [add_block] at this|exact this) GW401.out);have hn402_3:ad402.block≠gb401:=Nat.ne_of_lt (Nat.lt_of_lt_of_le (by have:=World.block_lt_of_cell? _ _ hx402_0;first|rwa [add_block] at this|exact this) GW401.out);replace hx402_0:=mx_ HB hx402_0;replace hx402_0:=(cell_far (p:=⟨gb401,0,none⟩) (by first|(rw [add_block];exact hn402_0)|(show (Addr.add _ _).block≠_;rw [add_block];exact hn402_0)|exact hn402_0) (.int .i64 ((y3_ l0_4 x65_2).f0))).trans hx402_0;replace hx402_0:=(cell_far (p:=⟨gb401,1,none⟩) (by first|(rw [add_block];exact hn402_1)|(show (Addr.add _ _).block≠_;rw [add_block];exact hn402_1)|exact hn402_1) (.int .i64 ((y3_ l0_4 x65_2).f1))).trans hx402_0;replace hx402_0:=(cell_far (p:=⟨gb401,2,none⟩) (by first|(rw [add_block];exact hn402_2)|(show (Addr.add _ _).block≠_;rw [add_block];exact hn402_2)|exact hn402_2) (.string ((y3_ l0_4 x65_2).f2))).trans hx402_0;replace hx402_0:=(cell_far (p:=⟨gb401,3,none⟩) (by first|(rw [add_block];exact hn402_3)|(show (Addr.add _ _).block≠_;rw [add_block];exact hn402_3)|exact hn402_3) (.slice (some ad402) ((y3_ l0_4 x65_2).f3).length c400_3)).trans hx402_0;(try have hy402_0:=fun (n_:Nat)=>(show ((((((w60.drewN n_).setCell ⟨gb401,0,none⟩ (.int .i64 ((y3_ l0_4 x65_2).f0))).setCell ⟨gb401,1,none⟩ (.int .i64 ((y3_ l0_4 x65_2).f1))).setCell ⟨gb401,2,none⟩ (.string ((y3_ l0_4 x65_2).f2))).setCell ⟨gb401,3,none⟩ (.slice (some ad402) ((y3_ l0_4 x65_2).f3).length c400_3))).cell? _=some _ from hx402_0));clear hn402_0;clear hn402_1;clear hn402_2;clear hn402_3;replace p402:=eq_true p402;replace q402:=eq_true q402)|(go_at_call 162;(with_reducible refine (y1_.calls k2 _ _ l0_3 (rd ((y3_ l0_4 x65_2).f3) 0) t403 _ ?side1 HC0_3.out A59.out).mono ?_);(case side1=>exact Kd.xo_ HR0_3.out (mb_ HB));rintro e w' ⟨rfl,⟨nd,rfl⟩⟩;(try first|exact ⟨rfl,_,World.drewN_drewN _ _ _⟩|exact ⟨rfl,_,Eq.trans (World.drewN_drewN _ _ _) (congrArg (World.drewN _) (Nat.add_assoc _ _ _))⟩)));try go_quiet (first|(go_at_call 162;(with_reducible refine (y1_.calls k2 _ _ l0_3 (rd ((y3_ l0_4 x65_2).f3) 0) t403 _ ?side1 HC0_3.out A59.out).mono ?_);(case side1=>exact Kd.xo_ HR0_3.out (mb_ HB));rintro e w' ⟨rfl,⟨nd,rfl⟩⟩;(try first|exact ⟨rfl,_,World.drewN_drewN _ _ _⟩|exact ⟨rfl,_,Eq.trans (World.drewN_drewN _ _ _) (congrArg (World.drewN _) (Nat.add_assoc _ _ _))⟩))))
    go_loopg [11] k2 (fun kq v11 w'=>∃(x11_3:Int),v11=.int .i64 x11_3∧z0_ (z4_.l3 kq x3_1 x65_2 x11_3 l0_4 (l0_4.length:Int) x65_2 a0_0 a0_1 l0_2 l0_3 l0_4 ((y3_ l0_4 x65_2).f0) ((y3_ l0_4 x65_2).f1) ((y3_ l0_4 x65_2).f2) ((y3_ l0_4 x65_2).f3)=some r)∧z0_ (kq≤k2)∧z0_ (Kd.R Kd.string 9 w' w.heap.size (fun _=>True) u3 x3_1)∧z0_ (w'.heap[gb388]?=some (.cells #[.string a0_0,.int .i64 a0_1,(.slice A0_2 l0_2.length c0_2),(.slice A0_3 l0_3.length c0_3),(.slice (some ad400) l0_4.length c0_4)] 39 (0,0)))∧z0_ (w'.heap[gb401]?=some (.cells #[.int .i64 ((y3_ l0_4 x65_2).f0),.int .i64 ((y3_ l0_4 x65_2).f1),.string ((y3_ l0_4 x65_2).f2),(.slice (some ad402) ((y3_ l0_4 x65_2).f3).length c400_3)] 98 (0,0)))∧z0_ (Below w.heap.size w w'))
    case atStart=>exact ⟨(t403),mq_,H',⟨Nat.le_refl _⟩,⟨(Kd.yk_ (mf_ HO_3 BK401) (fun _ hk=>trivial))⟩,⟨mc_ BK388⟩,⟨mp_ BK401⟩,⟨mb_ HB⟩⟩
    clear H';(try clear c51b0);(try clear c52b0);(try clear c53b0);(try clear c54b0);(try clear c54b1);(try clear c54b2);(try clear c58b0);(try clear c58b1);(try clear hx400_0);(try clear hx400_1);(try clear hx400_2);(try clear hx400_3);(try clear hx402_0);(try clear p400);(try clear p402);(try clear q400);(try clear q402);obtain ⟨x11_3,rfl,HA,HK3,HO_3,BK388,BK401,HB⟩:=hrel;obtain _|k3:=gk
    ·exact absurd HA.out (by simp [z4_.l3])
    have H:=HA.out;clear HA;simp only [z4_.l3] at H;obtain ⟨ji64,hji64⟩:∃j_:Int,(wrap64 ((((y3_ l0_4 x65_2).f3).length:Int)-1))=j_:=⟨_,rfl⟩;replace H:(if 0≤(ji64) then (if (ji64)<(((y3_ l0_4 x65_2).f3).length:Int) then (if x11_3≤(rd ((y3_ l0_4 x65_2).f3) (ji64)) then (if 0≤x11_3 then (if x11_3<(l0_3.length:Int) then (if ((z2_ l0_3 x11_3).f0)=1 then ((yl_.f k3 ((z2_ l0_3 x11_3).f2) x3_1).bind fun t407=>(if t407=true then (z4_.l3 k3 x3_1 x65_2 (wrap64 (x11_3+1)) l0_4 (l0_4.length:Int) x65_2 a0_0 a0_1 l0_2 l0_3 l0_4 ((y3_ l0_4 x65_2).f0) ((y3_ l0_4 x65_2).f1) ((y3_ l0_4 x65_2).f2) ((y3_ l0_4 x65_2).f3)) else (some (wrap64 ((wrap64 ((l0_2.length:Int)+x65_2))+1))))) else (z4_.l3 k3 x3_1 x65_2 (wrap64 (x11_3+1)) l0_4 (l0_4.length:Int) x65_2 a0_0 a0_1 l0_2 l0_3 l0_4 ((y3_ l0_4 x65_2).f0) ((y3_ l0_4 x65_2).f1) ((y3_ l0_4 x65_2).f2) ((y3_ l0_4 x65_2).f3))) else (none)) else (none)) else (z4_.l2 k3 x3_1 l0_4 (l0_4.length:Int) (wrap64 (x65_2+1)) a0_0 a0_1 l0_2 l0_3 l0_4)) else (none)) else (none))=some r:=by first|(rw [hji64] at H;exact H)|(simp only [hji64] at H ⊢;exact H)
    have hji64w:(IntKind.i64.wrap ((((y3_ l0_4 x65_2).f3).length:Int)-1))=ji64:=(i64_w _).trans hji64
    by_cases c65:0≤(ji64)
    case neg=>
     rw [if_neg c65] at H;cases H
    rw [if_pos c65] at H;have c65b0:=ct_ c65;clear c65;by_cases c66:(ji64)<(((y3_ l0_4 x65_2).f3).length:Int)
    case neg=>
     rw [if_neg c66] at H;cases H
    rw [if_pos c66] at H;have c66b0:=ct_ c66;clear c66;by_cases c67:x11_3≤(rd ((y3_ l0_4 x65_2).f3) (ji64))
    ·rw [if_pos c67] at H;have c67b0:=ct_ c67;clear c67;by_cases c68:0≤x11_3
     case neg=>
      rw [if_neg c68] at H;cases H
     rw [if_pos c68] at H;have c68b0:=ct_ c68;clear c68;by_cases c69:x11_3<(l0_3.length:Int)
     case neg=>
      rw [if_neg c69] at H;cases H
     rw [if_pos c69] at H;have c69b0:=ct_ c69;clear c69;by_cases c70:((z2_ l0_3 x11_3).f0)=1
     ·rw [if_pos c70] at H;obtain ⟨c70b0,c70b1⟩:=bq_ c70;clear c70;obtain ⟨t407,A71,H⟩:=ob_ H;by_cases c72:t407=true
      ·subst c72;rw [if_pos rfl] at H;have H':=a_ H;clear H;have nNB401_388:=NB401_388.out;have nNB388_401:=NB388_401.out;replace hz401:=cz4 BK401;have p404:0≤((ji64):Int):=md_
       have q404:(ji64)<(((y3_ l0_4 x65_2).f3).length:Int):=md_
       obtain ⟨ad404,e404,hx404_0⟩:=Kd.at_int HR400_3.out (ji64) p404 q404;obtain rfl:ad402=ad404:=(by injection e404);replace hx404_0:=mx_ HB hx404_0;replace p404:=eq_true p404;replace q404:=eq_true q404;replace hz388:=cz5 BK388;have p405:0≤(x11_3:Int):=md_
       have q405:x11_3<(l0_3.length:Int):=md_
       obtain ⟨ad405,e405,hx405_0,hx405_1,hx405_2,hx405_3,hx405_4,hx405_5,hx405_6,hx405_7⟩:=at_T161 HR0_3.out x11_3 p405 q405;cases e405;replace hx405_0:=mx_ HB hx405_0;replace hx405_1:=mx_ HB hx405_1;replace hx405_2:=mx_ HB hx405_2;replace hx405_3:=mx_ HB hx405_3;replace hx405_4:=mx_ HB hx405_4;replace hx405_5:=mx_ HB hx405_5;replace hx405_6:=mx_ HB hx405_6;replace hx405_7:=mx_ HB hx405_7;replace p405:=eq_true p405;replace q405:=eq_true q405;iterate 3 (go_wp2_with (first|((with_reducible refine zl_ (N:=12) rfl ?_);refine bh_ 12 #[.int .i64 0,.int .u8 0,.string (⟨#[]⟩:ByteArray),.int .i64 0,.int .i64 0,.string (⟨#[]⟩:ByteArray),.int .i64 0,.int .i64 0] 161 HB ?_;intro gb406 hg w76 BK406 GE406 hb;obtain ⟨NB388_406,NB406_388⟩:=mn_ BK388 hg;obtain ⟨NB401_406,NB406_401⟩:=mn_ BK401 hg;replace HO_3:=ro_ HO_3 hb;replace BK388:=mk_ BK388 hb;replace BK401:=mk_ BK401 hb;replace HB:=ms_ HB hb;clear hb hg;have nNB406_388:=NB406_388.out;have nNB388_406:=NB388_406.out;have nNB406_401:=NB406_401.out;have nNB401_406:=NB401_406.out;replace hz406:=cz8 BK406;obtain ⟨Ao80,co80,eo80⟩:=Kd.yv_ HO_3.out;subst eo80)|(go_at_call 161;(with_reducible refine (yl_.calls k3 ((z2_ l0_3 x11_3).f2) _ _ x3_1 true _ ?side1 ?side2 A71.out).mono ?_);(case side1=>refine (Kd.yb_ (e:=9) (base:=w.heap.size) (ok:=fun k_=>True) (n:=x3_1.length) (c:=co80) ?_).2.2;exact ((Kd.yk_ (mf_ HO_3 BK406) (fun _ h_=>h_.1))));(case side2=>exact (Kd.yb_ HO_3.out).2.1);rintro e w' ⟨rfl,⟨nd,rfl⟩⟩;(try first|exact ⟨rfl,_,World.drewN_drewN _ _ _⟩|exact ⟨rfl,_,Eq.trans (World.drewN_drewN _ _ _) (congrArg (World.drewN _) (Nat.add_assoc _ _ _))⟩)));try go_quiet (first|(go_at_call 161;(with_reducible refine (yl_.calls k3 ((z2_ l0_3 x11_3).f2) _ _ x3_1 true _ ?side1 ?side2 A71.out).mono ?_);(case side1=>refine (Kd.yb_ (e:=9) (base:=w.heap.size) (ok:=fun k_=>True) (n:=x3_1.length) (c:=co80) ?_).2.2;exact ((Kd.yk_ (mf_ HO_3 BK406) (fun _ h_=>h_.1))));(case side2=>exact (Kd.yb_ HO_3.out).2.1);rintro e w' ⟨rfl,⟨nd,rfl⟩⟩;(try first|exact ⟨rfl,_,World.drewN_drewN _ _ _⟩|exact ⟨rfl,_,Eq.trans (World.drewN_drewN _ _ _) (congrArg (World.drewN _) (Nat.add_assoc _ _ _))⟩))))
       go_roundg k3
       case measure=>
        have:=HK1.out
        have:=HK2.out
        have:=HK3.out
        omega
       case rel=>exact ufdc_1
      ·replace c72:=Bool.eq_false_iff.mpr c72;subst c72;rw [if_neg (show ¬(false=true) by decide)] at H;obtain rfl:=oi_ H;have nNB401_388:=NB401_388.out;have nNB388_401:=NB388_401.out;replace hz401:=cz4 BK401;have p404:0≤((ji64):Int):=md_
       have q404:(ji64)<(((y3_ l0_4 x65_2).f3).length:Int):=md_
       obtain ⟨ad404,e404,hx404_0⟩:=Kd.at_int HR400_3.out (ji64) p404 q404;obtain rfl:ad402=ad404:=(by injection e404);replace hx404_0:=mx_ HB hx404_0;replace p404:=eq_true p404;replace q404:=eq_true q404;replace hz388:=cz5 BK388;have p405:0≤(x11_3:Int):=md_
       have q405:x11_3<(l0_3.length:Int):=md_
       obtain ⟨ad405,e405,hx405_0,hx405_1,hx405_2,hx405_3,hx405_4,hx405_5,hx405_6,hx405_7⟩:=at_T161 HR0_3.out x11_3 p405 q405;cases e405;replace hx405_0:=mx_ HB hx405_0;replace hx405_1:=mx_ HB hx405_1;replace hx405_2:=mx_ HB hx405_2;replace hx405_3:=mx_ HB hx405_3;replace hx405_4:=mx_ HB hx405_4;replace hx405_5:=mx_ HB hx405_5;replace hx405_6:=mx_ HB hx405_6;replace hx405_7:=mx_ HB hx405_7;replace p405:=eq_true p405;replace q405:=eq_true q405;iterate 3 (go_wp2_with (first|((with_reducible refine zl_ (N:=12) rfl ?_);refine bh_ 12 #[.int .i64 0,.int .u8 0,.string (⟨#[]⟩:ByteArray),.int .i64 0,.int .i64 0,.string (⟨#[]⟩:ByteArray),.int .i64 0,.int .i64 0] 161 HB ?_;intro gb406 hg w84 BK406 GE406 hb;obtain ⟨NB388_406,NB406_388⟩:=mn_ BK388 hg;obtain ⟨NB401_406,NB406_401⟩:=mn_ BK401 hg;replace HO_3:=ro_ HO_3 hb;replace BK388:=mk_ BK388 hb;replace BK401:=mk_ BK401 hb;replace HB:=ms_ HB hb;clear hb hg;have nNB406_388:=NB406_388.out;have nNB388_406:=NB388_406.out;have nNB406_401:=NB406_401.out;have nNB401_406:=NB401_406.out;replace hz406:=cz8 BK406;obtain ⟨Ao88,co88,eo88⟩:=Kd.yv_ HO_3.out;subst eo88)|(go_at_call 161;(with_reducible refine (yl_.calls k3 ((z2_ l0_3 x11_3).f2) _ _ x3_1 false _ ?side1 ?side2 A71.out).mono ?_);(case side1=>refine (Kd.yb_ (e:=9) (base:=w.heap.size) (ok:=fun k_=>True) (n:=x3_1.length) (c:=co88) ?_).2.2;exact ((Kd.yk_ (mf_ HO_3 BK406) (fun _ h_=>h_.1))));(case side2=>exact (Kd.yb_ HO_3.out).2.1);rintro e w' ⟨rfl,⟨nd,rfl⟩⟩;(try first|exact ⟨rfl,_,World.drewN_drewN _ _ _⟩|exact ⟨rfl,_,Eq.trans (World.drewN_drewN _ _ _) (congrArg (World.drewN _) (Nat.add_assoc _ _ _))⟩);replace hz388:=cz5 BK388));try go_quiet (first|(go_at_call 161;(with_reducible refine (yl_.calls k3 ((z2_ l0_3 x11_3).f2) _ _ x3_1 false _ ?side1 ?side2 A71.out).mono ?_);(case side1=>refine (Kd.yb_ (e:=9) (base:=w.heap.size) (ok:=fun k_=>True) (n:=x3_1.length) (c:=co88) ?_).2.2;exact ((Kd.yk_ (mf_ HO_3 BK406) (fun _ h_=>h_.1))));(case side2=>exact (Kd.yb_ HO_3.out).2.1);rintro e w' ⟨rfl,⟨nd,rfl⟩⟩;(try first|exact ⟨rfl,_,World.drewN_drewN _ _ _⟩|exact ⟨rfl,_,Eq.trans (World.drewN_drewN _ _ _) (congrArg (World.drewN _) (Nat.add_assoc _ _ _))⟩);replace hz388:=cz5 BK388)))
       go_ret;exact ⟨by first|rfl|(simp [errW_none,errW_some]<;>rfl)|(simp only [←hji64];first|rfl|(simp [errW_none,errW_some]<;>rfl))|(simp [*,errW_none,errW_some]<;>rfl),mb_ HB⟩
     ·rw [if_neg c70] at H;obtain ⟨c70b0,c70b1⟩:=bn_ c70;have H':=a_ H;clear H;have nNB401_388:=NB401_388.out;have nNB388_401:=NB388_401.out;replace hz401:=cz4 BK401;have p404:0≤((ji64):Int):=md_
      have q404:(ji64)<(((y3_ l0_4 x65_2).f3).length:Int):=md_
      obtain ⟨ad404,e404,hx404_0⟩:=Kd.at_int HR400_3.out (ji64) p404 q404;obtain rfl:ad402=ad404:=(by injection e404);replace hx404_0:=mx_ HB hx404_0;replace p404:=eq_true p404;replace q404:=eq_true q404;replace hz388:=cz5 BK388;have p405:0≤(x11_3:Int):=md_
      have q405:x11_3<(l0_3.length:Int):=md_
      obtain ⟨ad405,e405,hx405_0,hx405_1,hx405_2,hx405_3,hx405_4,hx405_5,hx405_6,hx405_7⟩:=at_T161 HR0_3.out x11_3 p405 q405;cases e405;replace hx405_0:=mx_ HB hx405_0;replace hx405_1:=mx_ HB hx405_1;replace hx405_2:=mx_ HB hx405_2;replace hx405_3:=mx_ HB hx405_3;replace hx405_4:=mx_ HB hx405_4;replace hx405_5:=mx_ HB hx405_5;replace hx405_6:=mx_ HB hx405_6;replace hx405_7:=mx_ HB hx405_7;replace p405:=eq_true p405;replace q405:=eq_true q405;iterate 3 (go_wp2_with (first|((with_reducible refine zl_ (N:=12) rfl ?_);refine bh_ 12 #[.int .i64 0,.int .u8 0,.string (⟨#[]⟩:ByteArray),.int .i64 0,.int .i64 0,.string (⟨#[]⟩:ByteArray),.int .i64 0,.int .i64 0] 161 HB ?_;intro gb406 hg w93 BK406 GE406 hb;obtain ⟨NB388_406,NB406_388⟩:=mn_ BK388 hg;obtain ⟨NB401_406,NB406_401⟩:=mn_ BK401 hg;replace HO_3:=ro_ HO_3 hb;replace BK388:=mk_ BK388 hb;replace BK401:=mk_ BK401 hb;replace HB:=ms_ HB hb;clear hb hg;have nNB406_388:=NB406_388.out;have nNB388_406:=NB388_406.out;have nNB406_401:=NB406_401.out;have nNB401_406:=NB401_406.out;replace hz406:=cz8 BK406));try go_quiet (fail))
      go_roundg k3
      case measure=>
       have:=HK1.out
       have:=HK2.out
       have:=HK3.out
       omega
      case rel=>exact ufdc_1
    ·rw [if_neg c67] at H;have c67b0:=cf_ c67;clear c67;have H':=a_ H;clear H;have nNB401_388:=NB401_388.out;have nNB388_401:=NB388_401.out;replace hz401:=cz4 BK401;have p404:0≤((ji64):Int):=md_
     have q404:(ji64)<(((y3_ l0_4 x65_2).f3).length:Int):=md_
     obtain ⟨ad404,e404,hx404_0⟩:=Kd.at_int HR400_3.out (ji64) p404 q404;obtain rfl:ad402=ad404:=(by injection e404);replace hx404_0:=mx_ HB hx404_0;replace p404:=eq_true p404;replace q404:=eq_true q404;go_wp2;repeat (go_quiet (fail);try go_wp2)
     go_roundg k3
     case measure=>
      have:=HK1.out
      have:=HK2.out
      have:=HK3.out
      omega
     case rel=>exact ⟨(wrap64 (x65_2+1)),mq_,H',⟨by have:=HK1.out;have:=HK2.out;have:=HK3.out;omega⟩,⟨mo_ HO_3.out⟩,⟨mc_ BK388⟩,⟨mb_ HB⟩⟩
  ·rw [if_neg c51] at H;have c51b0:=cf_ c51;clear c51;obtain rfl:=oi_ H;go_wp2;repeat (go_quiet (fail);try go_wp2)
   go_ret;exact ⟨me_,mb_ HB⟩
end Go.Proofs.YtahambloheoebaaGreatDoor.P
namespace Go.Proofs.YtahambloheoebaaGreatDoor.P
open Go.Proofs.YtahambloheoebaaGreatDoorX
open Go.RowKit Go.Proofs.YtahambloheoebaaGreatDoorW.PrintWords Go.Proofs.YtahambloheoebaaGreatDoorW.PrintLast Go.Proofs.YtahambloheoebaaGreatDoorW.PrintMore
attribute [local go_sem] ww_ wx_ max_two min_two wc_ wb_ wu_ wv_
mutual
def z7_.l0:Nat→List (S39)→List (S39)→Int→Int→Option (Int×Int×Int)
 | 0,_,_,_,_=>none
 | k+1,x0,x15,x16,x17=>if x17<x16 then (if 0≤x17 then (if x17<(x15.length:Int) then ((zc_.f k ((z9_ x15 x17).f0) ((z9_ x15 x17).f1) ((z9_ x15 x17).f2) ((z9_ x15 x17).f3) ((z9_ x15 x17).f4)).bind fun t411=>(if t411≥0 then (some (1,x17,t411)) else (if x17≤(x0.length:Int) then ((some (x0.take (x17:Int).toNat:List (S39))).bind fun y412=>(z7_.l1 k x0 x17 x15 x16 x17 y412 (y412.length:Int) 0 ((z9_ x15 x17).f0) ((z9_ x15 x17).f1) ((z9_ x15 x17).f2) ((z9_ x15 x17).f3) ((z9_ x15 x17).f4))) else (none)))) else (none)) else (none)) else (some (0,0,0))
def z7_.l1:Nat→List (S39)→Int→List (S39)→Int→Int→List (S39)→Int→Int→ByteArray→Int→List (S42)→List (S161)→List (S98)→Option (Int×Int×Int)
 | 0,_,_,_,_,_,_,_,_,_,_,_,_,_=>none
 | k+1,x0,x3,x15,x16,x17,x31,x32,x33,x411000,x411001,x411002,x411003,x411004=>if x33<x32 then (if 0≤x33 then (if x33<(x31.length:Int) then (if ((z9_ x31 x33).f0).toList=x411000.toList then (some (2,x3,0)) else (z7_.l1 k x0 x3 x15 x16 x17 x31 x32 (wrap64 (x33+1)) x411000 x411001 x411002 x411003 x411004)) else (none)) else (none)) else ((zt_.f k x411000 x411001 x411002 x411003 x411004).bind fun t418=>(if t418<1 then (z7_.j2 k x0 x3 t418 x15 x16 x17 true x411000 x411001 x411002 x411003 x411004) else (z7_.j2 k x0 x3 t418 x15 x16 x17 (decide (t418>3)) x411000 x411001 x411002 x411003 x411004)))
def z7_.j2:Nat→List (S39)→Int→Int→List (S39)→Int→Int→Bool→ByteArray→Int→List (S42)→List (S161)→List (S98)→Option (Int×Int×Int)
 | 0,_,_,_,_,_,_,_,_,_,_,_,_=>none
 | k+1,x0,x3,x8,x15,x16,x17,x52,x411000,x411001,x411002,x411003,x411004=>if x52=true then (some (3,x3,0)) else ((z4_.f k x411000 x411001 x411002 x411003 x411004).bind fun t419=>(if t419≥0 then (some (4,x3,t419)) else (z7_.l2 k x0 x3 x8 x15 x16 x17 x411004 (x411004.length:Int) 0 x411000 x411001 x411002 x411003 x411004)))
def z7_.l2:Nat→List (S39)→Int→Int→List (S39)→Int→Int→List (S98)→Int→Int→ByteArray→Int→List (S42)→List (S161)→List (S98)→Option (Int×Int×Int)
 | 0,_,_,_,_,_,_,_,_,_,_,_,_,_,_=>none
 | k+1,x0,x3,x8,x15,x16,x17,x63,x64,x65,x411000,x411001,x411002,x411003,x411004=>if x65<x64 then (if 0≤x65 then (if x65<(x63.length:Int) then (if ((y3_ x63 x65).f0)=2 then (if ((y3_ x63 x65).f1)<1 then (some (5,x3,wrap64 ((wrap64 ((x411002.length:Int)+x65))+1))) else (if ((y3_ x63 x65).f1)>x8 then (some (5,x3,wrap64 ((wrap64 ((x411002.length:Int)+x65))+1))) else (z7_.l2 k x0 x3 x8 x15 x16 x17 x63 x64 (wrap64 (x65+1)) x411000 x411001 x411002 x411003 x411004))) else (if ((y3_ x63 x65).f0)=3 then (if ((y3_ x63 x65).f1)<1 then (some (5,x3,wrap64 ((wrap64 ((x411002.length:Int)+x65))+1))) else (if ((y3_ x63 x65).f1)>x8 then (some (5,x3,wrap64 ((wrap64 ((x411002.length:Int)+x65))+1))) else (z7_.l2 k x0 x3 x8 x15 x16 x17 x63 x64 (wrap64 (x65+1)) x411000 x411001 x411002 x411003 x411004))) else (z7_.l2 k x0 x3 x8 x15 x16 x17 x63 x64 (wrap64 (x65+1)) x411000 x411001 x411002 x411003 x411004))) else (none)) else (none)) else (z7_.l0 k x0 x15 x16 (wrap64 (x17+1)))
end
def z7_.f (k:Nat) (l0:List (S39)):Option (Int×Int×Int):=if (l0.length:Int)>16 then (some (1,0,0)) else (z7_.l0 k l0 l0 (l0.length:Int) 0)
theorem z7_.y6_:∀k,(∀y0 y1 y2 y3,LeO (z7_.l0 k y0 y1 y2 y3) (z7_.l0 (k+1) y0 y1 y2 y3))∧(∀y0 y1 y2 y3 y4 y5 y6 y7 y8 y9 y10 y11 y12,LeO (z7_.l1 k y0 y1 y2 y3 y4 y5 y6 y7 y8 y9 y10 y11 y12) (z7_.l1 (k+1) y0 y1 y2 y3 y4 y5 y6 y7 y8 y9 y10 y11 y12))∧(∀y0 y1 y2 y3 y4 y5 y6 y7 y8 y9 y10 y11,LeO (z7_.j2 k y0 y1 y2 y3 y4 y5 y6 y7 y8 y9 y10 y11) (z7_.j2 (k+1) y0 y1 y2 y3 y4 y5 y6 y7 y8 y9 y10 y11))∧(∀y0 y1 y2 y3 y4 y5 y6 y7 y8 y9 y10 y11 y12 y13,LeO (z7_.l2 k y0 y1 y2 y3 y4 y5 y6 y7 y8 y9 y10 y11 y12 y13) (z7_.l2 (k+1) y0 y1 y2 y3 y4 y5 y6 y7 y8 y9 y10 y11 y12 y13))
 | 0=>⟨fun _ _ _ _ r h=>by simp [z7_.l0] at h,fun _ _ _ _ _ _ _ _ _ _ _ _ _ r h=>by simp [z7_.l1] at h,fun _ _ _ _ _ _ _ _ _ _ _ _ r h=>by simp [z7_.j2] at h,fun _ _ _ _ _ _ _ _ _ _ _ _ _ _ r h=>by simp [z7_.l2] at h⟩
 | k+1=>by
  obtain ⟨ih0,ih1,ih2,ih3⟩:=z7_.y6_ k;refine ⟨?_,?_,?_,?_⟩
  ·intro y0 y1 y2 y3;unfold z7_.l0
   repeat' with_reducible first|apply ih0|apply ih1|apply ih2|apply ih3|apply zt_.mono|apply z4_.mono|apply zc_.mono|apply LeO.refl|apply LeO.none|refine LeO.ite ?_ ?_|refine LeO.bind ?_ (fun _=>?_)
  ·intro y0 y1 y2 y3 y4 y5 y6 y7 y8 y9 y10 y11 y12;unfold z7_.l1
   repeat' with_reducible first|apply ih0|apply ih1|apply ih2|apply ih3|apply zt_.mono|apply z4_.mono|apply zc_.mono|apply LeO.refl|apply LeO.none|refine LeO.ite ?_ ?_|refine LeO.bind ?_ (fun _=>?_)
  ·intro y0 y1 y2 y3 y4 y5 y6 y7 y8 y9 y10 y11;unfold z7_.j2
   repeat' with_reducible first|apply ih0|apply ih1|apply ih2|apply ih3|apply zt_.mono|apply z4_.mono|apply zc_.mono|apply LeO.refl|apply LeO.none|refine LeO.ite ?_ ?_|refine LeO.bind ?_ (fun _=>?_)
  ·intro y0 y1 y2 y3 y4 y5 y6 y7 y8 y9 y10 y11 y12 y13;unfold z7_.l2
   repeat' with_reducible first|apply ih0|apply ih1|apply ih2|apply ih3|apply zt_.mono|apply z4_.mono|apply zc_.mono|apply LeO.refl|apply LeO.none|refine LeO.ite ?_ ?_|refine LeO.bind ?_ (fun _=>?_)
theorem z7_.mono:∀a0 k,LeO (z7_.f k a0) (z7_.f (k+1) a0):=by
 intro a0 k;obtain ⟨ih0,ih1,ih2,ih3⟩:=z7_.y6_ k;unfold z7_.f
 repeat' with_reducible first|apply ih0|apply ih1|apply ih2|apply ih3|apply zt_.mono|apply z4_.mono|apply zc_.mono|apply LeO.refl|apply LeO.none|refine LeO.ite ?_ ?_|refine LeO.bind ?_ (fun _=>?_)
theorem u6fe_1 {p:Prop} (h:p:=by
 have H':=a_ H;clear H;have p420:0≤(x65_4:Int):=md_
 have q420:x65_4<(((z9_ l0 x17_1).f4).length:Int):=md_
 obtain ⟨ad420,A420_3,c420_3,e420,hx420_0,hx420_1,hx420_2,hx420_3,hl420_3,hi420_3⟩:=at_T98 HR409_4.out x65_4 p420 q420;cases e420;replace hx420_0:=mx_ HB hx420_0;replace hx420_1:=mx_ HB hx420_1;replace hx420_2:=mx_ HB hx420_2;replace hx420_3:=mx_ HB hx420_3;have HR420_3:=a_ hi420_3;have HC420_3:=a_ hl420_3;clear hi420_3 hl420_3;replace p420:=eq_true p420;replace q420:=eq_true q420;go_wp2_with (first|((with_reducible refine zl_ (N:=10) rfl ?_);refine bh_ 10 #[.int .i64 0,.int .i64 0,.string (⟨#[]⟩:ByteArray),.slice none 0 0] 98 HB ?_;intro gb421 hg wx BK421 GE421 hb;obtain ⟨NB408_421,NB421_408⟩:=mn_ BK408 hg;obtain ⟨NB410_421,NB421_410⟩:=mn_ BK410 hg;replace BK408:=mk_ BK408 hb;replace BK410:=mk_ BK410 hb;replace HB:=ms_ HB hb;clear hb hg;have nNB421_408:=NB421_408.out;have nNB408_421:=NB408_421.out;have nNB421_410:=NB421_410.out;have nNB410_421:=NB410_421.out;replace hz421:=cz4 BK421));go_roundg k4
 case measure=>
  have:=HK1.out
  have:=HK2.out
  have:=HJ40.out
  have:=HK4.out
  omega
 case rel=>exact ⟨(wrap64 (x65_4+1)),(x409000_4),(x409001_4),(x409002_4),mq_,H',⟨by have:=HK1.out;have:=HK2.out;have:=HJ40.out;have:=HK4.out;omega⟩,⟨mc_ BK408⟩,⟨mc_ BK410⟩,⟨mb_ HB⟩⟩):p:=h
theorem u6fe_0 {p:Prop} (h:p:=by
 simp only [Option.some.injEq,Prod.mk.injEq] at H;obtain ⟨rfl,rfl,rfl⟩:=H;have p420:0≤(x65_4:Int):=md_
 have q420:x65_4<(((z9_ l0 x17_1).f4).length:Int):=md_
 obtain ⟨ad420,A420_3,c420_3,e420,hx420_0,hx420_1,hx420_2,hx420_3,hl420_3,hi420_3⟩:=at_T98 HR409_4.out x65_4 p420 q420;cases e420;replace hx420_0:=mx_ HB hx420_0;replace hx420_1:=mx_ HB hx420_1;replace hx420_2:=mx_ HB hx420_2;replace hx420_3:=mx_ HB hx420_3;have HR420_3:=a_ hi420_3;have HC420_3:=a_ hl420_3;clear hi420_3 hl420_3;replace p420:=eq_true p420;replace q420:=eq_true q420;go_wp2_with (first|((with_reducible refine zl_ (N:=10) rfl ?_);refine bh_ 10 #[.int .i64 0,.int .i64 0,.string (⟨#[]⟩:ByteArray),.slice none 0 0] 98 HB ?_;intro gb421 hg wx BK421 GE421 hb;obtain ⟨NB408_421,NB421_408⟩:=mn_ BK408 hg;obtain ⟨NB410_421,NB421_410⟩:=mn_ BK410 hg;replace BK408:=mk_ BK408 hb;replace BK410:=mk_ BK410 hb;replace HB:=ms_ HB hb;clear hb hg;have nNB421_408:=NB421_408.out;have nNB408_421:=NB408_421.out;have nNB421_410:=NB421_410.out;have nNB410_421:=NB410_421.out;replace hz421:=cz4 BK421;have nNB410_408:=NB410_408.out;have nNB408_410:=NB408_410.out;replace hz410:=cz5 BK410;replace hz408:=cz3 BK408));refine bodyPost_ret (results_cell_row rfl _ _ gb408 128 #[.int .i64 5,.int .i64 x17_1,.int .i64 (wrap64 ((wrap64 ((((z9_ l0 x17_1).f2).length:Int)+x65_4))+1))] (0,0) _ rfl (mp_ BK408) Tryz.underlying128 rfl (by kernel_rfl)) rfl ?_;exact ⟨me_,mb_ HB⟩):p:=h
set_option maxHeartbeats 8000000 in
set_option maxRecDepth 100000 in
theorem z7_.calls (k:Nat) (A0:Option Addr) (c0:Nat) (l0:List (S39)) (r1:Int) (r2:Int) (r3:Int) (w:World) (hr0:Kd.C k39 w A0 l0.length l0) (hc0:l0.length≤c0) (h:z7_.f k l0=some (r1,r2,r3)):
  Calls Tryz.prog 79 #[.slice A0 l0.length c0] w fun e w'=>e=.returned (.agg #[.int .i64 r1,.int .i64 r2,.int .i64 r3])∧Below w.heap.size w w':=by
 have hu128:=Tryz.underlying128;have hu39:=Tryz.underlying39;have hu98:=Tryz.underlying98;have HR0:=a_ hr0;have HC0:=a_ hc0;clear hr0 hc0;have HB:=a_ (Below.refl w.heap.size w);have H:=h;unfold z7_.f at H
 clear h;by_cases c2:(l0.length:Int)>16
 ·rw [if_pos c2] at H;have c2b0:=ct_ c2;have c2b1:decide (16<l0.length)=true:=decide_eq_true (by omega)
  clear c2;simp only [Option.some.injEq,Prod.mk.injEq] at H;obtain ⟨rfl,rfl,rfl⟩:=H;go_enter Tryz.func79,Tryz.ntmps79;go_wp2_with (first|((with_reducible refine zl_ (N:=2) rfl ?_);refine bh_ 2 #[.int .i64 0,.int .i64 0,.int .i64 0] 128 HB ?_;intro gb408 hg wx BK408 GE408 hb;replace HB:=ms_ HB hb;clear hb hg;replace hz408:=cz3 BK408));refine bodyPost_ret (results_cell_row rfl _ _ gb408 128 #[.int .i64 1,.int .i64 0,.int .i64 0] (0,0) _ rfl (mp_ BK408) Tryz.underlying128 rfl (by kernel_rfl)) rfl ?_;exact ⟨me_,mb_ HB⟩
 ·rw [if_neg c2] at H;have c2b0:=cf_ c2;have c2b1:decide (16<l0.length)=false:=decide_eq_false (by omega)
  clear c2;have H':=a_ H;clear H;go_enter Tryz.func79,Tryz.ntmps79;go_wp2_with (first|((with_reducible refine zl_ (N:=2) rfl ?_);refine bh_ 2 #[.int .i64 0,.int .i64 0,.int .i64 0] 128 HB ?_;intro gb408 hg wx BK408 GE408 hb;replace HB:=ms_ HB hb;clear hb hg));go_loopg [17] k (fun kq v17 w'=>∃(x17_1:Int) (x409000_1:Int) (x409001_1:Int) (x409002_1:Int),v17=.int .i64 x17_1∧z0_ (z7_.l0 kq l0 l0 (l0.length:Int) x17_1=some (r1,r2,r3))∧z0_ (kq≤k)∧z0_ (w'.heap[gb408]?=some (.cells #[.int .i64 x409000_1,.int .i64 x409001_1,.int .i64 x409002_1] 128 (0,0)))∧z0_ (Below w.heap.size w w'))
  case atStart=>exact ⟨(0),(0),(0),(0),mq_,H',⟨Nat.le_refl _⟩,⟨mc_ BK408⟩,⟨mb_ HB⟩⟩
  clear H';(try clear c2b0);(try clear c2b1);obtain ⟨x17_1,x409000_1,x409001_1,x409002_1,rfl,HA,HK1,BK408,HB⟩:=hrel;obtain _|k1:=gk
  ·exact absurd HA.out (by simp [z7_.l0])
  have H:=HA.out;clear HA;simp only [z7_.l0] at H;by_cases c6:x17_1<(l0.length:Int)
  ·rw [if_pos c6] at H;have c6b0:=ct_ c6;clear c6;by_cases c7:0≤x17_1
   case neg=>
    rw [if_neg c7] at H;cases H
   rw [if_pos c7] at H;have c7b0:=ct_ c7;clear c7;by_cases c8:x17_1<(l0.length:Int)
   case neg=>
    rw [if_neg c8] at H;cases H
   rw [if_pos c8] at H;have c8b0:=ct_ c8;clear c8;obtain ⟨t411,A9,H⟩:=ob_ H;by_cases c10:t411≥0
   ·rw [if_pos c10] at H;have c10b0:=ct_ c10;clear c10;simp only [Option.some.injEq,Prod.mk.injEq] at H;obtain ⟨rfl,rfl,rfl⟩:=H;have p409:0≤(x17_1:Int):=md_
    have q409:x17_1<(l0.length:Int):=md_
    obtain ⟨ad409,A409_2,c409_2,A409_3,c409_3,A409_4,c409_4,e409,hx409_0,hx409_1,hx409_2,hx409_3,hx409_4,hl409_2,hi409_2,hl409_3,hi409_3,hl409_4,hi409_4⟩:=at_T39 HR0.out x17_1 p409 q409;cases e409;replace hx409_0:=mx_ HB hx409_0;replace hx409_1:=mx_ HB hx409_1;replace hx409_2:=mx_ HB hx409_2;replace hx409_3:=mx_ HB hx409_3;replace hx409_4:=mx_ HB hx409_4;have HR409_2:=a_ hi409_2;have HC409_2:=a_ hl409_2;clear hi409_2 hl409_2;have HR409_3:=a_ hi409_3;have HC409_3:=a_ hl409_3;clear hi409_3 hl409_3;have HR409_4:=a_ hi409_4;have HC409_4:=a_ hl409_4;clear hi409_4 hl409_4;replace p409:=eq_true p409;replace q409:=eq_true q409;go_wp2_with (first|((with_reducible refine zl_ (N:=4) rfl ?_);refine bh_ 4 #[.string (⟨#[]⟩:ByteArray),.int .i64 0,.slice none 0 0,.slice none 0 0,.slice none 0 0] 39 HB ?_;intro gb410 hg wx BK410 GE410 hb;obtain ⟨NB408_410,NB410_408⟩:=mn_ BK408 hg;replace BK408:=mk_ BK408 hb;replace HB:=ms_ HB hb;clear hb hg;have nNB410_408:=NB410_408.out;have nNB408_410:=NB408_410.out;replace hz410:=cz5 BK410)|((with_reducible refine zg_ (f:=128) rfl ?_);refine xf_ (some 23) rfl rfl Tryz.func128 (by kernel_rfl) rfl #[.agg #[.string ((z9_ l0 x17_1).f0),.int .i64 ((z9_ l0 x17_1).f1),.slice A409_2 ((z9_ l0 x17_1).f2).length c409_2,.slice A409_3 ((z9_ l0 x17_1).f3).length c409_3,.slice A409_4 ((z9_ l0 x17_1).f4).length c409_4]] rfl mw_ ?_;(with_reducible refine (zc_.calls k1 ((z9_ l0 x17_1).f0) ((z9_ l0 x17_1).f1) _ _ ((z9_ l0 x17_1).f2) _ _ ((z9_ l0 x17_1).f3) _ _ ((z9_ l0 x17_1).f4) t411 _ ?side1 HC409_2.out ?side3 HC409_3.out ?side5 HC409_4.out A9.out).mono ?_);(case side1=>exact Kd.xo_ HR409_2.out (mb_ HB));(case side3=>exact Kd.xo_ HR409_3.out (mb_ HB));(case side5=>exact Kd.xo_ HR409_4.out (mb_ HB));rintro e wx ⟨rfl,hb⟩;refine ⟨_,rfl,?_⟩;replace BK408:=mk_ BK408 hb;replace BK410:=a_ (zd_ (g:=gb410) (o:=.cells #[.string ((z9_ l0 x17_1).f0),.int .i64 ((z9_ l0 x17_1).f1),.slice A409_2 ((z9_ l0 x17_1).f2).length c409_2,.slice A409_3 ((z9_ l0 x17_1).f3).length c409_3,.slice A409_4 ((z9_ l0 x17_1).f4).length c409_4] 39 (0,0)) (mp_ BK410) hb);replace HB:=ms_ HB hb;(try clear hb);replace hz408:=cz3 BK408));refine bodyPost_ret (results_cell_row rfl _ _ gb408 128 #[.int .i64 1,.int .i64 x17_1,.int .i64 t411] (0,0) _ rfl (mp_ BK408) Tryz.underlying128 rfl (by kernel_rfl)) rfl ?_;exact ⟨me_,mb_ HB⟩
   ·rw [if_neg c10] at H;have c10b0:=cf_ c10;clear c10;have c16b0:=eq_true (md_:0≤x17_1);by_cases c17:x17_1≤(l0.length:Int)
    case neg=>
     rw [if_neg c17] at H;cases H
    rw [if_pos c17] at H;have c17b0:=eq_true c17;have c17b1:=ct_ c17;clear c17;obtain ⟨y412,hy412⟩:∃y_:List (S39),y_=(l0.take (x17_1:Int).toNat):=⟨_,rfl⟩;rw [←hy412] at H;(try rw [Option.bind_some] at H);have Ny412:=a_ hy412;clear hy412;have H':=a_ H;clear H;have p409:0≤(x17_1:Int):=md_
    have q409:x17_1<(l0.length:Int):=md_
    obtain ⟨ad409,A409_2,c409_2,A409_3,c409_3,A409_4,c409_4,e409,hx409_0,hx409_1,hx409_2,hx409_3,hx409_4,hl409_2,hi409_2,hl409_3,hi409_3,hl409_4,hi409_4⟩:=at_T39 HR0.out x17_1 p409 q409;cases e409;replace hx409_0:=mx_ HB hx409_0;replace hx409_1:=mx_ HB hx409_1;replace hx409_2:=mx_ HB hx409_2;replace hx409_3:=mx_ HB hx409_3;replace hx409_4:=mx_ HB hx409_4;have HR409_2:=a_ hi409_2;have HC409_2:=a_ hl409_2;clear hi409_2 hl409_2;have HR409_3:=a_ hi409_3;have HC409_3:=a_ hl409_3;clear hi409_3 hl409_3;have HR409_4:=a_ hi409_4;have HC409_4:=a_ hl409_4;clear hi409_4 hl409_4;replace p409:=eq_true p409;replace q409:=eq_true q409;go_wp2_with (first|((with_reducible refine zl_ (N:=4) rfl ?_);refine bh_ 4 #[.string (⟨#[]⟩:ByteArray),.int .i64 0,.slice none 0 0,.slice none 0 0,.slice none 0 0] 39 HB ?_;intro gb410 hg wx BK410 GE410 hb;obtain ⟨NB408_410,NB410_408⟩:=mn_ BK408 hg;replace BK408:=mk_ BK408 hb;replace HB:=ms_ HB hb;clear hb hg;have nNB410_408:=NB410_408.out;have nNB408_410:=NB408_410.out;replace hz410:=cz5 BK410)|((with_reducible refine zg_ (f:=128) rfl ?_);refine xf_ (some 23) rfl rfl Tryz.func128 (by kernel_rfl) rfl #[.agg #[.string ((z9_ l0 x17_1).f0),.int .i64 ((z9_ l0 x17_1).f1),.slice A409_2 ((z9_ l0 x17_1).f2).length c409_2,.slice A409_3 ((z9_ l0 x17_1).f3).length c409_3,.slice A409_4 ((z9_ l0 x17_1).f4).length c409_4]] rfl mw_ ?_;(with_reducible refine (zc_.calls k1 ((z9_ l0 x17_1).f0) ((z9_ l0 x17_1).f1) _ _ ((z9_ l0 x17_1).f2) _ _ ((z9_ l0 x17_1).f3) _ _ ((z9_ l0 x17_1).f4) t411 _ ?side1 HC409_2.out ?side3 HC409_3.out ?side5 HC409_4.out A9.out).mono ?_);(case side1=>exact Kd.xo_ HR409_2.out (mb_ HB));(case side3=>exact Kd.xo_ HR409_3.out (mb_ HB));(case side5=>exact Kd.xo_ HR409_4.out (mb_ HB));rintro e wx ⟨rfl,hb⟩;refine ⟨_,rfl,?_⟩;replace BK408:=mk_ BK408 hb;replace BK410:=a_ (zd_ (g:=gb410) (o:=.cells #[.string ((z9_ l0 x17_1).f0),.int .i64 ((z9_ l0 x17_1).f1),.slice A409_2 ((z9_ l0 x17_1).f2).length c409_2,.slice A409_3 ((z9_ l0 x17_1).f3).length c409_3,.slice A409_4 ((z9_ l0 x17_1).f4).length c409_4] 39 (0,0)) (mp_ BK410) hb);replace HB:=ms_ HB hb;(try clear hb);have q22:(x17_1:Int)≤((l0.length:Int):Int):=md_;obtain ⟨i022,hi022,_,hsz22,_⟩:=info_parts info39;have hroom22:l0.length≤c0:=HC0.out;have hC22:Kd.C k39 _ (some ad409) l0.length l0:=HR0.out;have hcut22:=cut_to (P:=Tryz.prog) 23 39 .i64 Tryz.underlying23 hi022 (some ad409) l0.length c0 x17_1 (md_) q22 hroom22;have hr22:=Kd.C_take (m:=(x17_1:Int).toNat) hC22 (by omega);have hy22:y412.length=(x17_1:Int).toNat:=(by rw [Ny412.out,List.length_take];omega);rw [←Ny412.out] at hr22;rw [←hy22] at hcut22;have HR415:=a_ hr22;have HC415:=a_ (show y412.length≤c0 from by omega);clear hr22 hC22 hroom22 hi022 hsz22;have KY22:=a_ hy22;clear hy22;replace q22:=eq_true q22))
    go_loopg [33] k1 (fun kq v33 w'=>∃(x33_2:Int) (x409000_2:Int) (x409001_2:Int) (x409002_2:Int),v33=.int .i64 x33_2∧z0_ (z7_.l1 kq l0 x17_1 l0 (l0.length:Int) x17_1 y412 (y412.length:Int) x33_2 ((z9_ l0 x17_1).f0) ((z9_ l0 x17_1).f1) ((z9_ l0 x17_1).f2) ((z9_ l0 x17_1).f3) ((z9_ l0 x17_1).f4)=some (r1,r2,r3))∧z0_ (kq≤k1)∧z0_ (w'.heap[gb408]?=some (.cells #[.int .i64 x409000_2,.int .i64 x409001_2,.int .i64 x409002_2] 128 (0,0)))∧z0_ (w'.heap[gb410]?=some (.cells #[.string ((z9_ l0 x17_1).f0),.int .i64 ((z9_ l0 x17_1).f1),(.slice A409_2 ((z9_ l0 x17_1).f2).length c409_2),(.slice A409_3 ((z9_ l0 x17_1).f3).length c409_3),(.slice A409_4 ((z9_ l0 x17_1).f4).length c409_4)] 39 (0,0)))∧z0_ (Below w.heap.size w w'))
    case atStart=>exact ⟨(0),(x409000_1),(x409001_1),(x409002_1),mq_,H',⟨Nat.le_refl _⟩,⟨mc_ BK408⟩,⟨mc_ BK410⟩,⟨mb_ HB⟩⟩
    clear H';(try clear c6b0);(try clear c7b0);(try clear c8b0);(try clear c10b0);(try clear c16b0);(try clear c17b0);(try clear c17b1);(try clear q22);(try clear hx409_0);(try clear hx409_1);(try clear hx409_2);(try clear hx409_3);(try clear hx409_4);(try clear p409);(try clear q409);obtain ⟨x33_2,x409000_2,x409001_2,x409002_2,rfl,HA,HK2,BK408,BK410,HB⟩:=hrel;obtain _|k2:=gk
    ·exact absurd HA.out (by simp [z7_.l1])
    have H:=HA.out;clear HA;simp only [z7_.l1] at H;by_cases c23:x33_2<(y412.length:Int)
    ·rw [if_pos c23] at H;have c23b0:=ct_ c23;clear c23;by_cases c24:0≤x33_2
     case neg=>
      rw [if_neg c24] at H;cases H
     rw [if_pos c24] at H;have c24b0:=ct_ c24;clear c24;by_cases c25:x33_2<(y412.length:Int)
     case neg=>
      rw [if_neg c25] at H;cases H
     rw [if_pos c25] at H;have c25b0:=ct_ c25;clear c25;by_cases c26:((z9_ y412 x33_2).f0).toList=((z9_ l0 x17_1).f0).toList
     ·rw [if_pos c26] at H;obtain ⟨c26b0,c26b1⟩:=bq_ c26;clear c26;simp only [Option.some.injEq,Prod.mk.injEq] at H;obtain ⟨rfl,rfl,rfl⟩:=H;have p416:0≤(x33_2:Int):=md_
      have q416:x33_2<(y412.length:Int):=md_
      obtain ⟨ad416,A416_2,c416_2,A416_3,c416_3,A416_4,c416_4,e416,hx416_0,hx416_1,hx416_2,hx416_3,hx416_4,hl416_2,hi416_2,hl416_3,hi416_3,hl416_4,hi416_4⟩:=at_T39 HR415.out x33_2 p416 q416;obtain rfl:ad409=ad416:=(by injection e416);replace hx416_0:=mx_ HB hx416_0;replace hx416_1:=mx_ HB hx416_1;replace hx416_2:=mx_ HB hx416_2;replace hx416_3:=mx_ HB hx416_3;replace hx416_4:=mx_ HB hx416_4;have HR416_2:=a_ hi416_2;have HC416_2:=a_ hl416_2;clear hi416_2 hl416_2;have HR416_3:=a_ hi416_3;have HC416_3:=a_ hl416_3;clear hi416_3 hl416_3;have HR416_4:=a_ hi416_4;have HC416_4:=a_ hl416_4;clear hi416_4 hl416_4;replace p416:=eq_true p416;replace q416:=eq_true q416;go_wp2_with (first|((with_reducible refine zl_ (N:=7) rfl ?_);refine bh_ 7 #[.string (⟨#[]⟩:ByteArray),.int .i64 0,.slice none 0 0,.slice none 0 0,.slice none 0 0] 39 HB ?_;intro gb417 hg wx BK417 GE417 hb;obtain ⟨NB408_417,NB417_408⟩:=mn_ BK408 hg;obtain ⟨NB410_417,NB417_410⟩:=mn_ BK410 hg;replace BK408:=mk_ BK408 hb;replace BK410:=mk_ BK410 hb;replace HB:=ms_ HB hb;clear hb hg;have nNB417_408:=NB417_408.out;have nNB408_417:=NB408_417.out;have nNB417_410:=NB417_410.out;have nNB410_417:=NB410_417.out;replace hz417:=cz5 BK417;have nNB410_408:=NB410_408.out;have nNB408_410:=NB408_410.out;replace hz410:=cz5 BK410;replace hz408:=cz3 BK408));refine bodyPost_ret (results_cell_row rfl _ _ gb408 128 #[.int .i64 2,.int .i64 x17_1,.int .i64 0] (0,0) _ rfl (mp_ BK408) Tryz.underlying128 rfl (by kernel_rfl)) rfl ?_;exact ⟨me_,mb_ HB⟩
     ·rw [if_neg c26] at H;obtain ⟨c26b0,c26b1⟩:=bn_ c26;have H':=a_ H;clear H;have p416:0≤(x33_2:Int):=md_
      have q416:x33_2<(y412.length:Int):=md_
      obtain ⟨ad416,A416_2,c416_2,A416_3,c416_3,A416_4,c416_4,e416,hx416_0,hx416_1,hx416_2,hx416_3,hx416_4,hl416_2,hi416_2,hl416_3,hi416_3,hl416_4,hi416_4⟩:=at_T39 HR415.out x33_2 p416 q416;obtain rfl:ad409=ad416:=(by injection e416);replace hx416_0:=mx_ HB hx416_0;replace hx416_1:=mx_ HB hx416_1;replace hx416_2:=mx_ HB hx416_2;replace hx416_3:=mx_ HB hx416_3;replace hx416_4:=mx_ HB hx416_4;have HR416_2:=a_ hi416_2;have HC416_2:=a_ hl416_2;clear hi416_2 hl416_2;have HR416_3:=a_ hi416_3;have HC416_3:=a_ hl416_3;clear hi416_3 hl416_3;have HR416_4:=a_ hi416_4;have HC416_4:=a_ hl416_4;clear hi416_4 hl416_4;replace p416:=eq_true p416;replace q416:=eq_true q416;go_wp2_with (first|((with_reducible refine zl_ (N:=7) rfl ?_);refine bh_ 7 #[.string (⟨#[]⟩:ByteArray),.int .i64 0,.slice none 0 0,.slice none 0 0,.slice none 0 0] 39 HB ?_;intro gb417 hg wx BK417 GE417 hb;obtain ⟨NB408_417,NB417_408⟩:=mn_ BK408 hg;obtain ⟨NB410_417,NB417_410⟩:=mn_ BK410 hg;replace BK408:=mk_ BK408 hb;replace BK410:=mk_ BK410 hb;replace HB:=ms_ HB hb;clear hb hg;have nNB417_408:=NB417_408.out;have nNB408_417:=NB408_417.out;have nNB417_410:=NB417_410.out;have nNB410_417:=NB410_417.out;replace hz417:=cz5 BK417;have nNB410_408:=NB410_408.out;have nNB408_410:=NB408_410.out;replace hz410:=cz5 BK410));go_roundg k2
      case measure=>
       have:=HK1.out
       have:=HK2.out
       omega
      case rel=>exact ⟨(wrap64 (x33_2+1)),(x409000_2),(x409001_2),(x409002_2),mq_,H',⟨by have:=HK1.out;have:=HK2.out;omega⟩,⟨mc_ BK408⟩,⟨mc_ BK410⟩,⟨mb_ HB⟩⟩
    ·rw [if_neg c23] at H;have c23b0:=cf_ c23;clear c23;obtain ⟨t418,A40,H⟩:=ob_ H;have HC41:=a_ H;clear H;have nNB410_408:=NB410_408.out;have nNB408_410:=NB408_410.out;replace hz410:=cz5 BK410;go_upto_region 16 with (first|((with_reducible refine zg_ (f:=129) rfl ?_);refine xf_ (some 46) rfl rfl Tryz.func129 (by kernel_rfl) rfl #[.agg #[.string ((z9_ l0 x17_1).f0),.int .i64 ((z9_ l0 x17_1).f1),.slice A409_2 ((z9_ l0 x17_1).f2).length c409_2,.slice A409_3 ((z9_ l0 x17_1).f3).length c409_3,.slice A409_4 ((z9_ l0 x17_1).f4).length c409_4]] rfl mw_ ?_;(with_reducible refine (zt_.calls k2 ((z9_ l0 x17_1).f0) ((z9_ l0 x17_1).f1) _ _ ((z9_ l0 x17_1).f2) _ _ ((z9_ l0 x17_1).f3) _ _ ((z9_ l0 x17_1).f4) t418 _ ?side1 HC409_2.out ?side3 HC409_3.out ?side5 HC409_4.out A40.out).mono ?_);(case side1=>exact mt_ HR409_2 HB);(case side3=>exact mt_ HR409_3 HB);(case side5=>exact mt_ HR409_4 HB);rintro e w44 ⟨rfl,hb⟩;refine ⟨_,rfl,?_⟩;replace BK408:=mk_ BK408 hb;replace BK410:=mk_ BK410 hb;replace HB:=ms_ HB hb;(try clear hb)));(try simp only [Act.put,List.setIfInBounds_toArray,List.set_cons_zero,List.set_cons_succ]);go_cut [52] (fun v52 wc=>∃(kq:Nat) (x52_40:Bool),v52=.bool x52_40∧z0_ (z7_.j2 kq l0 x17_1 t418 l0 (l0.length:Int) x17_1 x52_40 ((z9_ l0 x17_1).f0) ((z9_ l0 x17_1).f1) ((z9_ l0 x17_1).f2) ((z9_ l0 x17_1).f3) ((z9_ l0 x17_1).f4)=some (r1,r2,r3))∧z0_ (kq≤k2)∧z0_ (wc.heap[gb408]?=some (.cells #[.int .i64 x409000_2,.int .i64 x409001_2,.int .i64 x409002_2] 128 (0,0)))∧z0_ (wc.heap[gb410]?=some (.cells #[.string ((z9_ l0 x17_1).f0),.int .i64 ((z9_ l0 x17_1).f1),(.slice A409_2 ((z9_ l0 x17_1).f2).length c409_2),(.slice A409_3 ((z9_ l0 x17_1).f3).length c409_3),(.slice A409_4 ((z9_ l0 x17_1).f4).length c409_4)] 39 (0,0)))∧z0_ (Below w.heap.size w wc))
     case first=>
      have H:=HC41.out;clear HC41;by_cases c45:t418<1
      ·rw [if_pos c45] at H;have c45b0:=ct_ c45;clear c45;(first|rw [c45b0]|(simp only [i64_w,i32_w];rw [c45b0])|skip);have H':=a_ H;clear H;go_wp2;go_meet
       case rel=>exact ⟨_,(true),mq_,H',⟨by have:=HK1.out;have:=HK2.out;first|omega|exact Nat.le_refl _⟩,⟨mc_ BK408⟩,⟨mc_ BK410⟩,⟨mb_ HB⟩⟩
      ·rw [if_neg c45] at H;have c45b0:=cf_ c45;clear c45;(first|rw [c45b0]|(simp only [i64_w,i32_w];rw [c45b0])|skip);have H':=a_ H;clear H;go_wp2;go_meet
       case rel=>exact ⟨_,(decide (t418>3)),mq_,H',⟨by have:=HK1.out;have:=HK2.out;first|omega|exact Nat.le_refl _⟩,⟨mc_ BK408⟩,⟨mc_ BK410⟩,⟨mb_ HB⟩⟩
     clear HC41;(try clear c23b0);obtain ⟨kq,x52_40,rfl,HA,HJ40,BK408,BK410,HB⟩:=hcut;obtain _|kj40:=kq
     ·exact absurd HA.out (by simp [z7_.j2])
     have H:=HA.out;clear HA;simp only [z7_.j2] at H;by_cases c46:x52_40=true
     ·subst c46;rw [if_pos rfl] at H;simp only [Option.some.injEq,Prod.mk.injEq] at H;obtain ⟨rfl,rfl,rfl⟩:=H;have nNB408_410:=NB408_410.out;have nNB410_408:=NB410_408.out;replace hz408:=cz3 BK408;go_wp2;refine bodyPost_ret (results_cell_row rfl _ _ gb408 128 #[.int .i64 3,.int .i64 x17_1,.int .i64 0] (0,0) _ rfl (mp_ BK408) Tryz.underlying128 rfl (by kernel_rfl)) rfl ?_;exact ⟨me_,mb_ HB⟩
     ·replace c46:=Bool.eq_false_iff.mpr c46;subst c46;rw [if_neg (show ¬(false=true) by decide)] at H;obtain ⟨t419,A49,H⟩:=ob_ H;by_cases c50:t419≥0
      ·rw [if_pos c50] at H;have c50b0:=ct_ c50;clear c50;simp only [Option.some.injEq,Prod.mk.injEq] at H;obtain ⟨rfl,rfl,rfl⟩:=H;have nNB410_408:=NB410_408.out;have nNB408_410:=NB408_410.out;replace hz410:=cz5 BK410;go_wp2_with (first|((with_reducible refine zg_ (f:=130) rfl ?_);refine xf_ (some 56) rfl rfl Tryz.func130 (by kernel_rfl) rfl #[.agg #[.string ((z9_ l0 x17_1).f0),.int .i64 ((z9_ l0 x17_1).f1),.slice A409_2 ((z9_ l0 x17_1).f2).length c409_2,.slice A409_3 ((z9_ l0 x17_1).f3).length c409_3,.slice A409_4 ((z9_ l0 x17_1).f4).length c409_4]] rfl mw_ ?_;(with_reducible refine (z4_.calls kj40 ((z9_ l0 x17_1).f0) ((z9_ l0 x17_1).f1) _ _ ((z9_ l0 x17_1).f2) _ _ ((z9_ l0 x17_1).f3) _ _ ((z9_ l0 x17_1).f4) t419 _ ?side1 HC409_2.out ?side3 HC409_3.out ?side5 HC409_4.out A49.out).mono ?_);(case side1=>exact mt_ HR409_2 HB);(case side3=>exact mt_ HR409_3 HB);(case side5=>exact mt_ HR409_4 HB);rintro e wx ⟨rfl,hb⟩;refine ⟨_,rfl,?_⟩;replace BK408:=mk_ BK408 hb;replace BK410:=mk_ BK410 hb;replace HB:=ms_ HB hb;(try clear hb);replace hz408:=cz3 BK408));refine bodyPost_ret (results_cell_row rfl _ _ gb408 128 #[.int .i64 4,.int .i64 x17_1,.int .i64 t419] (0,0) _ rfl (mp_ BK408) Tryz.underlying128 rfl (by kernel_rfl)) rfl ?_;exact ⟨me_,mb_ HB⟩
      ·rw [if_neg c50] at H;have c50b0:=cf_ c50;clear c50;have H':=a_ H;clear H;have nNB410_408:=NB410_408.out;have nNB408_410:=NB408_410.out;replace hz410:=cz5 BK410;go_wp2_with (first|((with_reducible refine zg_ (f:=130) rfl ?_);refine xf_ (some 56) rfl rfl Tryz.func130 (by kernel_rfl) rfl #[.agg #[.string ((z9_ l0 x17_1).f0),.int .i64 ((z9_ l0 x17_1).f1),.slice A409_2 ((z9_ l0 x17_1).f2).length c409_2,.slice A409_3 ((z9_ l0 x17_1).f3).length c409_3,.slice A409_4 ((z9_ l0 x17_1).f4).length c409_4]] rfl mw_ ?_;(with_reducible refine (z4_.calls kj40 ((z9_ l0 x17_1).f0) ((z9_ l0 x17_1).f1) _ _ ((z9_ l0 x17_1).f2) _ _ ((z9_ l0 x17_1).f3) _ _ ((z9_ l0 x17_1).f4) t419 _ ?side1 HC409_2.out ?side3 HC409_3.out ?side5 HC409_4.out A49.out).mono ?_);(case side1=>exact mt_ HR409_2 HB);(case side3=>exact mt_ HR409_3 HB);(case side5=>exact mt_ HR409_4 HB);rintro e wx ⟨rfl,hb⟩;refine ⟨_,rfl,?_⟩;replace BK408:=mk_ BK408 hb;replace BK410:=mk_ BK410 hb;replace HB:=ms_ HB hb;(try clear hb);replace hz410:=cz5 BK410));go_loopg [65] kj40 (fun kq v65 w'=>∃(x65_4:Int) (x409000_4:Int) (x409001_4:Int) (x409002_4:Int),v65=.int .i64 x65_4∧z0_ (z7_.l2 kq l0 x17_1 t418 l0 (l0.length:Int) x17_1 ((z9_ l0 x17_1).f4) (((z9_ l0 x17_1).f4).length:Int) x65_4 ((z9_ l0 x17_1).f0) ((z9_ l0 x17_1).f1) ((z9_ l0 x17_1).f2) ((z9_ l0 x17_1).f3) ((z9_ l0 x17_1).f4)=some (r1,r2,r3))∧z0_ (kq≤kj40)∧z0_ (w'.heap[gb408]?=some (.cells #[.int .i64 x409000_4,.int .i64 x409001_4,.int .i64 x409002_4] 128 (0,0)))∧z0_ (w'.heap[gb410]?=some (.cells #[.string ((z9_ l0 x17_1).f0),.int .i64 ((z9_ l0 x17_1).f1),(.slice A409_2 ((z9_ l0 x17_1).f2).length c409_2),(.slice A409_3 ((z9_ l0 x17_1).f3).length c409_3),(.slice A409_4 ((z9_ l0 x17_1).f4).length c409_4)] 39 (0,0)))∧z0_ (Below w.heap.size w w'))
       case atStart=>exact ⟨(0),(x409000_2),(x409001_2),(x409002_2),mq_,H',⟨Nat.le_refl _⟩,⟨mc_ BK408⟩,⟨mc_ BK410⟩,⟨mb_ HB⟩⟩
       clear H';(try clear c46);(try clear c50b0);obtain ⟨x65_4,x409000_4,x409001_4,x409002_4,rfl,HA,HK4,BK408,BK410,HB⟩:=hrel;obtain _|k4:=gk
       ·exact absurd HA.out (by simp [z7_.l2])
       have H:=HA.out;clear HA;simp only [z7_.l2] at H;by_cases c59:x65_4<(((z9_ l0 x17_1).f4).length:Int)
       ·rw [if_pos c59] at H;have c59b0:=ct_ c59;clear c59;by_cases c60:0≤x65_4
        case neg=>
         rw [if_neg c60] at H;cases H
        rw [if_pos c60] at H;have c60b0:=ct_ c60;clear c60;by_cases c61:x65_4<(((z9_ l0 x17_1).f4).length:Int)
        case neg=>
         rw [if_neg c61] at H;cases H
        rw [if_pos c61] at H;have c61b0:=ct_ c61;clear c61;by_cases c62:((y3_ ((z9_ l0 x17_1).f4) x65_4).f0)=2
        ·rw [if_pos c62] at H;obtain ⟨c62b0,c62b1⟩:=bq_ c62;clear c62;by_cases c63:((y3_ ((z9_ l0 x17_1).f4) x65_4).f1)<1
         ·rw [if_pos c63] at H;have c63b0:=ct_ c63;clear c63;exact u6fe_0
         ·rw [if_neg c63] at H;have c63b0:=cf_ c63;clear c63;by_cases c71:((y3_ ((z9_ l0 x17_1).f4) x65_4).f1)>t418
          ·rw [if_pos c71] at H;have c71b0:=ct_ c71;clear c71;exact u6fe_0
          ·rw [if_neg c71] at H;have c71b0:=cf_ c71;clear c71;exact u6fe_1
        ·rw [if_neg c62] at H;obtain ⟨c62b0,c62b1⟩:=bn_ c62;by_cases c83:((y3_ ((z9_ l0 x17_1).f4) x65_4).f0)=3
         ·rw [if_pos c83] at H;obtain ⟨c83b0,c83b1⟩:=bq_ c83;clear c83;by_cases c84:((y3_ ((z9_ l0 x17_1).f4) x65_4).f1)<1
          ·rw [if_pos c84] at H;have c84b0:=ct_ c84;clear c84;exact u6fe_0
          ·rw [if_neg c84] at H;have c84b0:=cf_ c84;clear c84;by_cases c92:((y3_ ((z9_ l0 x17_1).f4) x65_4).f1)>t418
           ·rw [if_pos c92] at H;have c92b0:=ct_ c92;clear c92;exact u6fe_0
           ·rw [if_neg c92] at H;have c92b0:=cf_ c92;clear c92;exact u6fe_1
         ·rw [if_neg c83] at H;obtain ⟨c83b0,c83b1⟩:=bn_ c83;exact u6fe_1
       ·rw [if_neg c59] at H;have c59b0:=cf_ c59;clear c59;have H':=a_ H;clear H;go_wp2;go_roundg k4
        case measure=>
         have:=HK1.out
         have:=HK2.out
         have:=HJ40.out
         have:=HK4.out
         omega
        case rel=>exact ⟨(wrap64 (x17_1+1)),(x409000_4),(x409001_4),(x409002_4),mq_,H',⟨by have:=HK1.out;have:=HK2.out;have:=HJ40.out;have:=HK4.out;omega⟩,⟨mc_ BK408⟩,⟨mb_ HB⟩⟩
  ·rw [if_neg c6] at H;have c6b0:=cf_ c6;clear c6;simp only [Option.some.injEq,Prod.mk.injEq] at H;obtain ⟨rfl,rfl,rfl⟩:=H;replace hz408:=cz3 BK408;go_wp2;refine bodyPost_ret (results_cell_row rfl _ _ gb408 128 #[.int .i64 0,.int .i64 0,.int .i64 0] (0,0) _ rfl (mp_ BK408) Tryz.underlying128 rfl (by kernel_rfl)) rfl ?_;exact ⟨me_,mb_ HB⟩
end Go.Proofs.YtahambloheoebaaGreatDoor.P
namespace Go.Proofs.YtahambloheoebaaGreatDoor.P
open Go.Proofs.YtahambloheoebaaGreatDoorX
open Go.RowKit Go.Proofs.YtahambloheoebaaGreatDoorW.PrintWords Go.Proofs.YtahambloheoebaaGreatDoorW.PrintLast Go.Proofs.YtahambloheoebaaGreatDoorW.PrintMore
attribute [local go_sem] ww_ wx_ max_two min_two wc_ wb_ wu_ wv_
attribute [local go_sem high] eqA82 eqA128
def xr_.f (k:Nat) (l0:List (S39)):Option (Bool):=(z7_.f k l0).bind fun bt422=>(some (bt422.1==0&&(bt422.2.1==0&&(bt422.2.2==0))))
theorem xr_.mono:∀a0 k,LeO (xr_.f k a0) (xr_.f (k+1) a0):=by
 intro a0 k;unfold xr_.f
 repeat' with_reducible first|apply z7_.mono|apply LeO.refl|apply LeO.none|refine LeO.ite ?_ ?_|refine LeO.bind ?_ (fun _=>?_)
set_option maxHeartbeats 8000000 in
set_option maxRecDepth 100000 in
theorem xr_.calls (k:Nat) (A0:Option Addr) (c0:Nat) (l0:List (S39)) (r:Bool) (w:World) (hr0:Kd.C k39 w A0 l0.length l0) (hc0:l0.length≤c0) (h:xr_.f k l0=some r):
  Calls Tryz.prog 37 #[.slice A0 l0.length c0] w fun e w'=>e=.returned (.bool r)∧Below w.heap.size w w':=by
 have hu128:=Tryz.underlying128;have HR0:=a_ hr0;have HC0:=a_ hc0;clear hr0 hc0;have HB:=a_ (Below.refl w.heap.size w);have H:=h;unfold xr_.f at H
 clear h;obtain ⟨⟨t422,t423,t424⟩,A2,H⟩:=ob_ H;obtain rfl:=oi_ H;go_enter Tryz.func37,Tryz.ntmps37;go_wp2_with (first|((with_reducible refine zg_ (f:=79) rfl ?_);refine xf_ (some 4) rfl rfl Tryz.func79 (by kernel_rfl) rfl #[.slice A0 l0.length c0] rfl mw_ ?_;(with_reducible refine (z7_.calls k _ _ l0 t422 t423 t424 _ ?side1 HC0.out A2.out).mono ?_);(case side1=>repeat (first|exact HR0.out|(with_reducible refine Kd.C_alloc ?_ _)|(with_reducible refine Kd.C_drewN ?_ _)|(with_reducible refine Kd.C_drew ?_)));rintro e wx ⟨rfl,hb⟩;refine ⟨_,rfl,?_⟩;replace HB:=ms_ HB hb;(try clear hb)));go_ret;exact ⟨me_,mb_ HB⟩
mutual
def y2_.j0:Nat→Bool→ByteArray→Int→List (S82)→ByteArray→Int→List (S82)→Option (Bool)
 | 0,_,_,_,_,_,_,_=>none
 | k+1,x26,x426000,x426001,x426002,x427000,x427001,x427002=>if x26=true then (some false) else (y2_.l0 k (x426002.length:Int) 0 x426000 x426001 x426002 x427000 x427001 x427002)
def y2_.l0:Nat→Int→Int→ByteArray→Int→List (S82)→ByteArray→Int→List (S82)→Option (Bool)
 | 0,_,_,_,_,_,_,_,_=>none
 | k+1,x29,x30,x426000,x426001,x426002,x427000,x427001,x427002=>if x30<x29 then (if 0≤x30 then (if x30<(x426002.length:Int) then (if x30<(x427002.length:Int) then (if (!(((zb_ x426002 x30).f0)==((zb_ x427002 x30).f0)) || (!(((zb_ x426002 x30).f1)==((zb_ x427002 x30).f1)) || (!(((zb_ x426002 x30).f2)==((zb_ x427002 x30).f2)) || ((!(((zb_ x426002 x30).f3.f0)==((zb_ x427002 x30).f3.f0)) || (!(((zb_ x426002 x30).f3.f1)==((zb_ x427002 x30).f3.f1)) || (!((((zb_ x426002 x30).f3.f2).toList)==(((zb_ x427002 x30).f3.f2).toList)))))))))=true then (some false) else (y2_.l0 k x29 (wrap64 (x30+1)) x426000 x426001 x426002 x427000 x427001 x427002)) else (none)) else (none)) else (none)) else (some true)
end
def y2_.f (k:Nat) (a0_0:ByteArray) (a0_1:Int) (l0_2:List (S82)) (a1_0:ByteArray) (a1_1:Int) (l1_2:List (S82)):Option (Bool):=if a0_0.toList=a1_0.toList then (if a0_1=a1_1 then (y2_.j0 k ((l0_2.length:Int) != (l1_2.length:Int)) a0_0 a0_1 l0_2 a1_0 a1_1 l1_2) else (y2_.j0 k true a0_0 a0_1 l0_2 a1_0 a1_1 l1_2)) else (y2_.j0 k true a0_0 a0_1 l0_2 a1_0 a1_1 l1_2)
theorem y2_.y6_:∀k,(∀y0 y1 y2 y3 y4 y5 y6,LeO (y2_.j0 k y0 y1 y2 y3 y4 y5 y6) (y2_.j0 (k+1) y0 y1 y2 y3 y4 y5 y6))∧(∀y0 y1 y2 y3 y4 y5 y6 y7,LeO (y2_.l0 k y0 y1 y2 y3 y4 y5 y6 y7) (y2_.l0 (k+1) y0 y1 y2 y3 y4 y5 y6 y7))
 | 0=>⟨fun _ _ _ _ _ _ _ r h=>by simp [y2_.j0] at h,fun _ _ _ _ _ _ _ _ r h=>by simp [y2_.l0] at h⟩
 | k+1=>by
  obtain ⟨ih0,ih1⟩:=y2_.y6_ k;refine ⟨?_,?_⟩
  ·intro y0 y1 y2 y3 y4 y5 y6;unfold y2_.j0
   repeat' with_reducible first|apply ih0|apply ih1|apply LeO.refl|apply LeO.none|refine LeO.ite ?_ ?_|refine LeO.bind ?_ (fun _=>?_)
  ·intro y0 y1 y2 y3 y4 y5 y6 y7;unfold y2_.l0
   repeat' with_reducible first|apply ih0|apply ih1|apply LeO.refl|apply LeO.none|refine LeO.ite ?_ ?_|refine LeO.bind ?_ (fun _=>?_)
theorem y2_.mono:∀a0 a1 a2 a3 a4 a5 k,LeO (y2_.f k a0 a1 a2 a3 a4 a5) (y2_.f (k+1) a0 a1 a2 a3 a4 a5):=by
 intro a0 a1 a2 a3 a4 a5 k;obtain ⟨ih0,ih1⟩:=y2_.y6_ k;unfold y2_.f
 repeat' with_reducible first|apply ih0|apply ih1|apply LeO.refl|apply LeO.none|refine LeO.ite ?_ ?_|refine LeO.bind ?_ (fun _=>?_)
set_option maxHeartbeats 8000000 in
set_option maxRecDepth 100000 in
theorem y2_.calls (k:Nat) (a0_0:ByteArray) (a0_1:Int) (A0_2:Option Addr) (c0_2:Nat) (l0_2:List (S82)) (a1_0:ByteArray) (a1_1:Int) (A1_2:Option Addr) (c1_2:Nat) (l1_2:List (S82)) (r:Bool) (w:World) (hr0_2:Kd.C k82 w A0_2 l0_2.length l0_2) (hc0_2:l0_2.length≤c0_2) (hr1_2:Kd.C k82 w A1_2 l1_2.length l1_2) (hc1_2:l1_2.length≤c1_2) (h:y2_.f k a0_0 a0_1 l0_2 a1_0 a1_1 l1_2=some r):
  Calls Tryz.prog 52 #[.agg #[.string a0_0,.int .i64 a0_1,.slice A0_2 l0_2.length c0_2],.agg #[.string a1_0,.int .i64 a1_1,.slice A1_2 l1_2.length c1_2]] w fun e w'=>e=.returned (.bool r)∧Below w.heap.size w w':=by
 have hu50:=Tryz.underlying50;have hu82:=Tryz.underlying82;have HR0_2:=a_ hr0_2;have HC0_2:=a_ hc0_2;clear hr0_2 hc0_2;have HR1_2:=a_ hr1_2;have HC1_2:=a_ hc1_2;clear hr1_2 hc1_2;have HB:=a_ (Below.refl w.heap.size w);have H:=h;unfold y2_.f at H
 clear h;have HC3:=a_ H;clear H;go_enter Tryz.func52,Tryz.ntmps52;go_upto_region 1 with (first|((with_reducible refine zl_ (N:=2) rfl ?_);(try (refine gate_guard (by rfl) ?_;dsimp only));refine bh_ 2 #[.string a0_0,.int .i64 a0_1,.slice A0_2 l0_2.length c0_2] 50 HB ?_;intro gb425 hg w4 BK425 GE425 hb;replace HB:=ms_ HB hb;clear hb hg)|((with_reducible refine zl_ (N:=3) rfl ?_);(try (refine gate_guard (by rfl) ?_;dsimp only));refine bh_ 3 #[.string a1_0,.int .i64 a1_1,.slice A1_2 l1_2.length c1_2] 50 HB ?_;intro gb426 hg w5 BK426 GE426 hb;obtain ⟨NB425_426,NB426_425⟩:=mn_ BK425 hg;replace BK425:=mk_ BK425 hb;replace HB:=ms_ HB hb;clear hb hg));repeat (go_quiet (first|((with_reducible refine zl_ (N:=2) rfl ?_);(try (refine gate_guard (by rfl) ?_;dsimp only));refine bh_ 2 #[.string a0_0,.int .i64 a0_1,.slice A0_2 l0_2.length c0_2] 50 HB ?_;intro gb425 hg w4 BK425 GE425 hb;replace HB:=ms_ HB hb;clear hb hg)|((with_reducible refine zl_ (N:=3) rfl ?_);(try (refine gate_guard (by rfl) ?_;dsimp only));refine bh_ 3 #[.string a1_0,.int .i64 a1_1,.slice A1_2 l1_2.length c1_2] 50 HB ?_;intro gb426 hg w5 BK426 GE426 hb;obtain ⟨NB425_426,NB426_425⟩:=mn_ BK425 hg;replace BK425:=mk_ BK425 hb;replace HB:=ms_ HB hb;clear hb hg));go_upto_region 1 with (first|((with_reducible refine zl_ (N:=2) rfl ?_);(try (refine gate_guard (by rfl) ?_;dsimp only));refine bh_ 2 #[.string a0_0,.int .i64 a0_1,.slice A0_2 l0_2.length c0_2] 50 HB ?_;intro gb425 hg w4 BK425 GE425 hb;replace HB:=ms_ HB hb;clear hb hg)|((with_reducible refine zl_ (N:=3) rfl ?_);(try (refine gate_guard (by rfl) ?_;dsimp only));refine bh_ 3 #[.string a1_0,.int .i64 a1_1,.slice A1_2 l1_2.length c1_2] 50 HB ?_;intro gb426 hg w5 BK426 GE426 hb;obtain ⟨NB425_426,NB426_425⟩:=mn_ BK425 hg;replace BK425:=mk_ BK425 hb;replace HB:=ms_ HB hb;clear hb hg)))
 (try simp only [Act.put,List.setIfInBounds_toArray,List.set_cons_zero,List.set_cons_succ]);go_cut [26] (fun v26 wc=>∃(kq:Nat) (x26_2:Bool),v26=.bool x26_2∧z0_ (y2_.j0 kq x26_2 a0_0 a0_1 l0_2 a1_0 a1_1 l1_2=some r)∧z0_ (kq≤k)∧z0_ (wc.heap[gb425]?=some (.cells #[.string a0_0,.int .i64 a0_1,(.slice A0_2 l0_2.length c0_2)] 50 (0,0)))∧z0_ (wc.heap[gb426]?=some (.cells #[.string a1_0,.int .i64 a1_1,(.slice A1_2 l1_2.length c1_2)] 50 (0,0)))∧z0_ (Below w.heap.size w wc))
 case first=>
  have H:=HC3.out;clear HC3;by_cases c6:a0_0.toList=a1_0.toList
  ·rw [if_pos c6] at H;obtain ⟨c6b0,c6b1⟩:=bq_ c6;clear c6;(first|rw [c6b0]|(simp only [i64_w,i32_w];rw [c6b0])|skip);by_cases c7:a0_1=a1_1
   ·rw [if_pos c7] at H;obtain ⟨c7b0,c7b1⟩:=bq_ c7;clear c7;have H':=a_ H;clear H;have nNB425_426:=NB425_426.out;have nNB426_425:=NB426_425.out;replace hz425:=cz3 BK425;replace hz426:=cz3 BK426;go_wp2;repeat (go_quiet (fail);try go_wp2)
    go_meet
    case rel=>exact ⟨_,(((l0_2.length:Int) != (l1_2.length:Int))),mq_,H',⟨by first|omega|exact Nat.le_refl _⟩,⟨mc_ BK425⟩,⟨mc_ BK426⟩,⟨mb_ HB⟩⟩
   ·rw [if_neg c7] at H;obtain ⟨c7b0,c7b1⟩:=bn_ c7;have H':=a_ H;clear H;have nNB425_426:=NB425_426.out;have nNB426_425:=NB426_425.out;replace hz425:=cz3 BK425;replace hz426:=cz3 BK426;go_wp2;repeat (go_quiet (fail);try go_wp2)
    go_meet
    case rel=>exact ⟨_,(true),mq_,H',⟨by first|omega|exact Nat.le_refl _⟩,⟨mc_ BK425⟩,⟨mc_ BK426⟩,⟨mb_ HB⟩⟩
  ·rw [if_neg c6] at H;obtain ⟨c6b0,c6b1⟩:=bn_ c6;(first|rw [c6b0]|(simp only [i64_w,i32_w];rw [c6b0])|skip);have H':=a_ H;clear H;have nNB425_426:=NB425_426.out;have nNB426_425:=NB426_425.out;replace hz425:=cz3 BK425;replace hz426:=cz3 BK426;go_wp2;repeat (go_quiet (fail);try go_wp2)
   go_meet
   case rel=>exact ⟨_,(true),mq_,H',⟨by first|omega|exact Nat.le_refl _⟩,⟨mc_ BK425⟩,⟨mc_ BK426⟩,⟨mb_ HB⟩⟩
 clear HC3;obtain ⟨kq,x26_2,rfl,HA,HJ2,BK425,BK426,HB⟩:=hcut;obtain _|kj2:=kq
 ·exact absurd HA.out (by simp [y2_.j0])
 have H:=HA.out;clear HA;simp only [y2_.j0] at H;by_cases c17:x26_2=true
 ·subst c17;rw [if_pos rfl] at H;obtain rfl:=oi_ H;go_wp2;repeat (go_quiet (fail);try go_wp2)
  go_ret;exact ⟨me_,mb_ HB⟩
 ·replace c17:=Bool.eq_false_iff.mpr c17;subst c17;rw [if_neg (show ¬(false=true) by decide)] at H;have H':=a_ H;clear H;have nNB425_426:=NB425_426.out;have nNB426_425:=NB426_425.out;replace hz425:=cz3 BK425;go_wp2;repeat (go_quiet (fail);try go_wp2)
  go_loopg [30] kj2 (fun kq v30 w'=>∃(x30_2:Int),v30=.int .i64 x30_2∧z0_ (y2_.l0 kq (l0_2.length:Int) x30_2 a0_0 a0_1 l0_2 a1_0 a1_1 l1_2=some r)∧z0_ (kq≤kj2)∧z0_ (w'.heap[gb425]?=some (.cells #[.string a0_0,.int .i64 a0_1,(.slice A0_2 l0_2.length c0_2)] 50 (0,0)))∧z0_ (w'.heap[gb426]?=some (.cells #[.string a1_0,.int .i64 a1_1,(.slice A1_2 l1_2.length c1_2)] 50 (0,0)))∧z0_ (Below w.heap.size w w'))
  case atStart=>exact ⟨(0),mq_,H',⟨Nat.le_refl _⟩,⟨mc_ BK425⟩,⟨mc_ BK426⟩,⟨mb_ HB⟩⟩
  clear H';(try clear c17);obtain ⟨x30_2,rfl,HA,HK2,BK425,BK426,HB⟩:=hrel;obtain _|k2:=gk
  ·exact absurd HA.out (by simp [y2_.l0])
  have H:=HA.out;clear HA;simp only [y2_.l0] at H;by_cases c20:x30_2<(l0_2.length:Int)
  ·rw [if_pos c20] at H;have c20b0:=ct_ c20;clear c20;by_cases c21:0≤x30_2
   case neg=>
    rw [if_neg c21] at H;cases H
   rw [if_pos c21] at H;have c21b0:=ct_ c21;clear c21;by_cases c22:x30_2<(l0_2.length:Int)
   case neg=>
    rw [if_neg c22] at H;cases H
   rw [if_pos c22] at H;have c22b0:=ct_ c22;clear c22;by_cases c23:x30_2<(l1_2.length:Int)
   case neg=>
    rw [if_neg c23] at H;cases H
   rw [if_pos c23] at H;have c23b0:=ct_ c23;clear c23;by_cases c24:(!(((zb_ l0_2 x30_2).f0)==((zb_ l1_2 x30_2).f0)) || (!(((zb_ l0_2 x30_2).f1)==((zb_ l1_2 x30_2).f1)) || (!(((zb_ l0_2 x30_2).f2)==((zb_ l1_2 x30_2).f2)) || ((!(((zb_ l0_2 x30_2).f3.f0)==((zb_ l1_2 x30_2).f3.f0)) || (!(((zb_ l0_2 x30_2).f3.f1)==((zb_ l1_2 x30_2).f3.f1)) || (!((((zb_ l0_2 x30_2).f3.f2).toList)==(((zb_ l1_2 x30_2).f3.f2).toList)))))))))=true
   ·rw [if_pos c24] at H;have c24b0:(!(((zb_ l0_2 x30_2).f0)==((zb_ l1_2 x30_2).f0)) || (!(((zb_ l0_2 x30_2).f1)==((zb_ l1_2 x30_2).f1)) || (!(((zb_ l0_2 x30_2).f2)==((zb_ l1_2 x30_2).f2)) || ((!(((zb_ l0_2 x30_2).f3.f0)==((zb_ l1_2 x30_2).f3.f0)) || (!(((zb_ l0_2 x30_2).f3.f1)==((zb_ l1_2 x30_2).f3.f1)) || (!((((zb_ l0_2 x30_2).f3.f2).toList)==(((zb_ l1_2 x30_2).f3.f2).toList)))))))))=true:=c24
    clear c24;obtain rfl:=oi_ H;have nNB425_426:=NB425_426.out;have nNB426_425:=NB426_425.out;replace hz425:=cz3 BK425;have p427:0≤(x30_2:Int):=md_
    have q427:x30_2<(l0_2.length:Int):=md_
    obtain ⟨ad427,e427,hx427_0,hx427_1,hx427_2,hx427_3,hx427_4,hx427_5⟩:=at_T82 HR0_2.out x30_2 p427 q427;cases e427;replace hx427_0:=mx_ HB hx427_0;replace hx427_1:=mx_ HB hx427_1;replace hx427_2:=mx_ HB hx427_2;replace hx427_3:=mx_ HB hx427_3;replace hx427_4:=mx_ HB hx427_4;replace hx427_5:=mx_ HB hx427_5;replace p427:=eq_true p427;replace q427:=eq_true q427;replace hz426:=cz3 BK426;have p428:0≤(x30_2:Int):=md_
    have q428:x30_2<(l1_2.length:Int):=md_
    obtain ⟨ad428,e428,hx428_0,hx428_1,hx428_2,hx428_3,hx428_4,hx428_5⟩:=at_T82 HR1_2.out x30_2 p428 q428;cases e428;replace hx428_0:=mx_ HB hx428_0;replace hx428_1:=mx_ HB hx428_1;replace hx428_2:=mx_ HB hx428_2;replace hx428_3:=mx_ HB hx428_3;replace hx428_4:=mx_ HB hx428_4;replace hx428_5:=mx_ HB hx428_5;replace p428:=eq_true p428;replace q428:=eq_true q428;go_wp2;repeat (go_quiet (fail);try go_wp2)
    go_ret;exact ⟨me_,mb_ HB⟩
   ·rw [if_neg c24] at H;have c24b0:(!(((zb_ l0_2 x30_2).f0)==((zb_ l1_2 x30_2).f0)) || (!(((zb_ l0_2 x30_2).f1)==((zb_ l1_2 x30_2).f1)) || (!(((zb_ l0_2 x30_2).f2)==((zb_ l1_2 x30_2).f2)) || ((!(((zb_ l0_2 x30_2).f3.f0)==((zb_ l1_2 x30_2).f3.f0)) || (!(((zb_ l0_2 x30_2).f3.f1)==((zb_ l1_2 x30_2).f3.f1)) || (!((((zb_ l0_2 x30_2).f3.f2).toList)==(((zb_ l1_2 x30_2).f3.f2).toList)))))))))=false:=by simpa using c24
    clear c24;have H':=a_ H;clear H;have nNB425_426:=NB425_426.out;have nNB426_425:=NB426_425.out;replace hz425:=cz3 BK425;have p427:0≤(x30_2:Int):=md_
    have q427:x30_2<(l0_2.length:Int):=md_
    obtain ⟨ad427,e427,hx427_0,hx427_1,hx427_2,hx427_3,hx427_4,hx427_5⟩:=at_T82 HR0_2.out x30_2 p427 q427;cases e427;replace hx427_0:=mx_ HB hx427_0;replace hx427_1:=mx_ HB hx427_1;replace hx427_2:=mx_ HB hx427_2;replace hx427_3:=mx_ HB hx427_3;replace hx427_4:=mx_ HB hx427_4;replace hx427_5:=mx_ HB hx427_5;replace p427:=eq_true p427;replace q427:=eq_true q427;replace hz426:=cz3 BK426;have p428:0≤(x30_2:Int):=md_
    have q428:x30_2<(l1_2.length:Int):=md_
    obtain ⟨ad428,e428,hx428_0,hx428_1,hx428_2,hx428_3,hx428_4,hx428_5⟩:=at_T82 HR1_2.out x30_2 p428 q428;cases e428;replace hx428_0:=mx_ HB hx428_0;replace hx428_1:=mx_ HB hx428_1;replace hx428_2:=mx_ HB hx428_2;replace hx428_3:=mx_ HB hx428_3;replace hx428_4:=mx_ HB hx428_4;replace hx428_5:=mx_ HB hx428_5;replace p428:=eq_true p428;replace q428:=eq_true q428;go_wp2;repeat (go_quiet (fail);try go_wp2)
    go_roundg k2
    case measure=>
     have:=HJ2.out
     have:=HK2.out
     omega
    case rel=>exact ⟨(wrap64 (x30_2+1)),mq_,H',⟨by have:=HJ2.out;have:=HK2.out;omega⟩,⟨mc_ BK425⟩,⟨mc_ BK426⟩,⟨mb_ HB⟩⟩
  ·rw [if_neg c20] at H;have c20b0:=cf_ c20;clear c20;obtain rfl:=oi_ H;go_wp2;repeat (go_quiet (fail);try go_wp2)
   go_ret;exact ⟨me_,mb_ HB⟩
end Go.Proofs.YtahambloheoebaaGreatDoor.P
namespace Go.Proofs.YtahambloheoebaaGreatDoor.P
open Go.Proofs.YtahambloheoebaaGreatDoorX
open Go.RowKit Go.Proofs.YtahambloheoebaaGreatDoorW.PrintWords Go.Proofs.YtahambloheoebaaGreatDoorW.PrintLast Go.Proofs.YtahambloheoebaaGreatDoorW.PrintMore
attribute [local go_sem] ww_ wx_ max_two min_two wc_ wb_ wu_ wv_
mutual
def zj_.l0:Nat→List (S39)→Int→Int→List (S50)→List (List Int)→Option ((List (S50))×(List (List Int)))
 | 0,_,_,_,_,_=>none
 | k+1,x16,x17,x18,x432000,x432001=>if x18<x17 then (if 0≤x18 then (if x18<(x16.length:Int) then (zj_.l1 k ([]:List Int) x16 x17 x18 ((z9_ x16 x18).f2) (((z9_ x16 x18).f2).length:Int) 0 x432000 x432001) else (none)) else (none)) else (some (x432000,x432001))
def zj_.l1:Nat→List Int→List (S39)→Int→Int→List (S42)→Int→Int→List (S50)→List (List Int)→Option ((List (S50))×(List (List Int)))
 | 0,_,_,_,_,_,_,_,_,_=>none
 | k+1,x6,x16,x17,x18,x23,x24,x25,x432000,x432001=>if x25<x24 then (if 0≤x25 then (if x25<(x23.length:Int) then ((zy_.f k ((zq_ x23 x25).f0) ((zq_ x23 x25).f1) ((zq_ x23 x25).f2)).bind fun bt439=>(zj_.l2 k x6 (-1) x16 x17 x18 x23 x24 x25 (x432000.length:Int) 0 x432000 x432001 bt439.1 bt439.2.1 bt439.2.2)) else (none)) else (none)) else (if x432001.length<5864062014805 then (zj_.l0 k x16 x17 (wrap64 (x18+1)) x432000 (x432001++[x6])) else (none))
def zj_.l2:Nat→List Int→Int→List (S39)→Int→Int→List (S42)→Int→Int→Int→Int→List (S50)→List (List Int)→ByteArray→Int→List (S82)→Option ((List (S50))×(List (List Int)))
 | 0,_,_,_,_,_,_,_,_,_,_,_,_,_,_,_=>none
 | k+1,x6,x10,x16,x17,x18,x23,x24,x25,x33,x34,x432000,x432001,x445000,x445001,x445002=>if x34<x33 then (if 0≤x34 then (if x34<(x432000.length:Int) then ((y2_.f k ((xg_ x432000 x34).f0) ((xg_ x432000 x34).f1) ((xg_ x432000 x34).f2) x445000 x445001 x445002).bind fun t446=>(if t446=true then (zj_.l2 k x6 x34 x16 x17 x18 x23 x24 x25 x33 (wrap64 (x34+1)) x432000 x432001 x445000 x445001 x445002) else (zj_.l2 k x6 x10 x16 x17 x18 x23 x24 x25 x33 (wrap64 (x34+1)) x432000 x432001 x445000 x445001 x445002))) else (none)) else (none)) else (if x10<0 then (if x432000.length<2932031007402 then (if x6.length<17592186044416 then (zj_.l1 k (x6++[(x432000.length:Int)]) x16 x17 x18 x23 x24 (wrap64 (x25+1)) (x432000++[(⟨x445000,x445001,x445002⟩:S50)]) x432001) else (none)) else (none)) else (if x6.length<17592186044416 then (zj_.l1 k (x6++[x10]) x16 x17 x18 x23 x24 (wrap64 (x25+1)) x432000 x432001) else (none)))
end
def zj_.f (k:Nat) (l0:List (S39)):Option ((List (S50))×(List (List Int))):=(xr_.f k l0).bind fun t430=>(if t430=true then (zj_.l0 k l0 (l0.length:Int) 0 ([]:List (S50)) ([]:List (List Int))) else (some (([]:List (S50)),([]:List (List Int)))))
theorem zj_.y6_:∀k,(∀y0 y1 y2 y3 y4,LeO (zj_.l0 k y0 y1 y2 y3 y4) (zj_.l0 (k+1) y0 y1 y2 y3 y4))∧(∀y0 y1 y2 y3 y4 y5 y6 y7 y8,LeO (zj_.l1 k y0 y1 y2 y3 y4 y5 y6 y7 y8) (zj_.l1 (k+1) y0 y1 y2 y3 y4 y5 y6 y7 y8))∧(∀y0 y1 y2 y3 y4 y5 y6 y7 y8 y9 y10 y11 y12 y13 y14,LeO (zj_.l2 k y0 y1 y2 y3 y4 y5 y6 y7 y8 y9 y10 y11 y12 y13 y14) (zj_.l2 (k+1) y0 y1 y2 y3 y4 y5 y6 y7 y8 y9 y10 y11 y12 y13 y14))
 | 0=>⟨fun _ _ _ _ _ r h=>by simp [zj_.l0] at h,fun _ _ _ _ _ _ _ _ _ r h=>by simp [zj_.l1] at h,fun _ _ _ _ _ _ _ _ _ _ _ _ _ _ _ r h=>by simp [zj_.l2] at h⟩
 | k+1=>by
  obtain ⟨ih0,ih1,ih2⟩:=zj_.y6_ k;refine ⟨?_,?_,?_⟩
  ·intro y0 y1 y2 y3 y4;unfold zj_.l0
   repeat' with_reducible first|apply ih0|apply ih1|apply ih2|apply zy_.mono|apply xr_.mono|apply y2_.mono|apply LeO.refl|apply LeO.none|refine LeO.ite ?_ ?_|refine LeO.bind ?_ (fun _=>?_)
  ·intro y0 y1 y2 y3 y4 y5 y6 y7 y8;unfold zj_.l1
   repeat' with_reducible first|apply ih0|apply ih1|apply ih2|apply zy_.mono|apply xr_.mono|apply y2_.mono|apply LeO.refl|apply LeO.none|refine LeO.ite ?_ ?_|refine LeO.bind ?_ (fun _=>?_)
  ·intro y0 y1 y2 y3 y4 y5 y6 y7 y8 y9 y10 y11 y12 y13 y14;unfold zj_.l2
   repeat' with_reducible first|apply ih0|apply ih1|apply ih2|apply zy_.mono|apply xr_.mono|apply y2_.mono|apply LeO.refl|apply LeO.none|refine LeO.ite ?_ ?_|refine LeO.bind ?_ (fun _=>?_)
theorem zj_.mono:∀a0 k,LeO (zj_.f k a0) (zj_.f (k+1) a0):=by
 intro a0 k;obtain ⟨ih0,ih1,ih2⟩:=zj_.y6_ k;unfold zj_.f
 repeat' with_reducible first|apply ih0|apply ih1|apply ih2|apply zy_.mono|apply xr_.mono|apply y2_.mono|apply LeO.refl|apply LeO.none|refine LeO.ite ?_ ?_|refine LeO.bind ?_ (fun _=>?_)
abbrev b548_0:Array Bool:=#[f_,f_,f_,f_,f_,f_,f_]
abbrev b548_1:Array Bool:=#[t_,f_,f_,f_,f_,f_,f_]
abbrev b548_2:Array Bool:=#[t_,f_,t_,f_,f_,f_,f_]
abbrev b548_3:Array Bool:=#[t_,t_,t_,f_,f_,f_,f_]
abbrev b548_4:Array Bool:=#[t_,t_,t_,t_,f_,f_,f_]
abbrev b548_5:Array Bool:=#[t_,t_,t_,t_,t_,f_,f_]
abbrev b548_6:Array Bool:=#[t_,t_,t_,t_,t_,t_,f_]
abbrev b548_7:Array Bool:=#[t_,t_,t_,t_,t_,t_,t_]
set_option maxHeartbeats 8000000 in
set_option maxRecDepth 100000 in
theorem zj_.calls (k:Nat) (A0:Option Addr) (c0:Nat) (l0:List (S39)) (r1:List (S50)) (r2:List (List Int)) (w:World) (hr0:Kd.C k39 w A0 l0.length l0) (hc0:l0.length≤c0) (h:zj_.f k l0=some (r1,r2)):
  Calls Tryz.prog 21 #[.slice A0 l0.length c0] w fun e w'=>∃v0_ v1_:Value,e=.returned (.agg #[v0_,v1_])∧Kd.S k50 50 w' w.heap.size (fun _=>True) v0_ r1∧Kd.S (Kd.slice 3 (Kd.int .i64)) 43 w' w.heap.size (fun _=>True) v1_ r2∧Below w.heap.size w w':=by
 have hu32:=Tryz.underlying32;have hu39:=Tryz.underlying39;have hu42:=Tryz.underlying42;have hu50:=Tryz.underlying50;have HR0:=a_ hr0;have HC0:=a_ hc0;clear hr0 hc0;have HB:=a_ (Below.refl w.heap.size w);have H:=h;unfold zj_.f at H
 clear h;obtain ⟨t430,A2,H⟩:=ob_ H;by_cases c3:t430=true
 ·subst c3;rw [if_pos rfl] at H;have H':=a_ H;clear H;go_enter Tryz.func21,Tryz.ntmps21;go_wp2_with (first|((with_reducible refine zl_ (N:=2) rfl ?_);refine bh_ 2 #[.slice none 0 0,.slice none 0 0] 32 HB ?_;intro gb429 hg wx BK429 GE429 hb;replace HB:=ms_ HB hb;clear hb hg)|((with_reducible refine zg_ (f:=37) rfl ?_);refine xf_ (some 13) rfl rfl Tryz.func37 (by kernel_rfl) rfl #[.slice A0 l0.length c0] rfl mw_ ?_;(with_reducible refine (xr_.calls k _ _ l0 true _ ?side1 HC0.out A2.out).mono ?_);(case side1=>exact mt_ HR0 HB);rintro e wx ⟨rfl,hb⟩;refine ⟨_,rfl,?_⟩;replace BK429:=mk_ BK429 hb;replace HB:=ms_ HB hb;(try clear hb))|((with_reducible refine zl_ (N:=3) rfl ?_);refine bh_ 3 #[.slice none 0 0,.slice none 0 0] 32 HB ?_;intro gb431 hg wx BK431 GE431 hb;obtain ⟨NB429_431,NB431_429⟩:=mn_ BK429 hg;replace BK429:=mk_ BK429 hb;replace HB:=ms_ HB hb;clear hb hg));go_loopg [18] k (fun kq v18 w'=>∃(x18_1:Int) (x432000_1:List (S50)) (x432001_1:List (List Int)) (u432000:Value) (u432001:Value),v18=.int .i64 x18_1∧z0_ (zj_.l0 kq l0 (l0.length:Int) x18_1 x432000_1 x432001_1=some (r1,r2))∧z0_ (kq≤k)∧z0_ (Kd.S k50 50 w' w.heap.size (fun _=>True) u432000 x432000_1)∧z0_ (Kd.S (Kd.slice 3 (Kd.int .i64)) 43 w' w.heap.size (fun _=>True) u432001 x432001_1)∧z0_ (w'.heap[gb429]?=some (.cells #[(.slice none 0 0),(.slice none 0 0)] 32 (0,0)))∧z0_ (w'.heap[gb431]?=some (.cells #[u432000,u432001] 32 (0,0)))∧z0_ (Below w.heap.size w w'))
  case atStart=>exact ⟨(0),(([]:List (S50))),(([]:List (List Int))),(.slice none 0 0),(.slice none 0 0),mq_,H',⟨Nat.le_refl _⟩,⟨by first|exact Kd.S_nil _ _ _ _ _|exact Kd.N_nil _ _ _ _ _|exact Kd.V_nil _ _ _ _ _|exact Kd.Q_nil _ _ _ _ _|exact Kd.R_nil _ _ _ _ _⟩,⟨by first|exact Kd.S_nil _ _ _ _ _|exact Kd.N_nil _ _ _ _ _|exact Kd.V_nil _ _ _ _ _|exact Kd.Q_nil _ _ _ _ _|exact Kd.R_nil _ _ _ _ _⟩,⟨mc_ BK429⟩,⟨mc_ BK431⟩,⟨mb_ HB⟩⟩
  clear H';(try clear c3);obtain ⟨x18_1,x432000_1,x432001_1,u432000,u432001,rfl,HA,HK1,HO_432000,HO_432001,BK429,BK431,HB⟩:=hrel;obtain _|k1:=gk
  ·exact absurd HA.out (by simp [zj_.l0])
  have H:=HA.out;clear HA;simp only [zj_.l0] at H;by_cases c7:x18_1<(l0.length:Int)
  ·rw [if_pos c7] at H;have c7b0:=ct_ c7;clear c7;by_cases c8:0≤x18_1
   case neg=>
    rw [if_neg c8] at H;cases H
   rw [if_pos c8] at H;have c8b0:=ct_ c8;clear c8;by_cases c9:x18_1<(l0.length:Int)
   case neg=>
    rw [if_neg c9] at H;cases H
   rw [if_pos c9] at H;have c9b0:=ct_ c9;clear c9;have H':=a_ H;clear H;have p432:0≤(x18_1:Int):=md_
   have q432:x18_1<(l0.length:Int):=md_
   obtain ⟨ad432,A432_2,c432_2,A432_3,c432_3,A432_4,c432_4,e432,hx432_0,hx432_1,hx432_2,hx432_3,hx432_4,hl432_2,hi432_2,hl432_3,hi432_3,hl432_4,hi432_4⟩:=at_T39 HR0.out x18_1 p432 q432;cases e432;replace hx432_0:=mx_ HB hx432_0;replace hx432_1:=mx_ HB hx432_1;replace hx432_2:=mx_ HB hx432_2;replace hx432_3:=mx_ HB hx432_3;replace hx432_4:=mx_ HB hx432_4;have HR432_2:=a_ hi432_2;have HC432_2:=a_ hl432_2;clear hi432_2 hl432_2;have HR432_3:=a_ hi432_3;have HC432_3:=a_ hl432_3;clear hi432_3 hl432_3;have HR432_4:=a_ hi432_4;have HC432_4:=a_ hl432_4;clear hi432_4 hl432_4;replace p432:=eq_true p432;replace q432:=eq_true q432;go_wp2_with (first|((with_reducible refine zl_ (N:=5) rfl ?_);refine bh_ 5 #[.string (⟨#[]⟩:ByteArray),.int .i64 0,.slice none 0 0,.slice none 0 0,.slice none 0 0] 39 HB ?_;intro gb433 hg wx BK433 GE433 hb;obtain ⟨NB429_433,NB433_429⟩:=mn_ BK429 hg;obtain ⟨NB431_433,NB433_431⟩:=mn_ BK431 hg;replace HO_432000:=a_ (Kd.yr_ (by (with_reducible repeat (first|apply Kd.zr_|apply Kd.y5_|apply Kd.yt_));exact HO_432000.out) hb);replace HO_432001:=a_ (Kd.yr_ (by (with_reducible repeat (first|apply Kd.zr_|apply Kd.y5_|apply Kd.yt_));exact HO_432001.out) hb);replace BK429:=mk_ BK429 hb;replace BK431:=mk_ BK431 hb;replace HB:=ms_ HB hb;clear hb hg;have nNB433_429:=NB433_429.out;have nNB429_433:=NB429_433.out;have nNB433_431:=NB433_431.out;have nNB431_433:=NB431_433.out;replace hz433:=cz5 BK433));go_loopg [6,25] k1 (fun kq v6 v25 w'=>∃(x6_2:List Int) (x25_2:Int) (x432000_2:List (S50)) (u432000:Value),v25=.int .i64 x25_2∧z0_ (zj_.l1 kq x6_2 l0 (l0.length:Int) x18_1 ((z9_ l0 x18_1).f2) (((z9_ l0 x18_1).f2).length:Int) x25_2 x432000_2 x432001_1=some (r1,r2))∧z0_ (kq≤k1)∧z0_ (Kd.R (Kd.int .i64) 3 w' w.heap.size (fun _=>True) v6 x6_2)∧z0_ (Kd.S k50 50 w' w.heap.size (fun _=>True) u432000 x432000_2)∧z0_ (Kd.S (Kd.slice 3 (Kd.int .i64)) 43 w' w.heap.size (fun k_=>some k_≠(v6:Value).ownBlock) u432001 x432001_1)∧z0_ (w'.heap[gb429]?=some (.cells #[(.slice none 0 0),(.slice none 0 0)] 32 (0,0)))∧z0_ (w'.heap[gb431]?=some (.cells #[u432000,u432001] 32 (0,0)))∧z0_ (w'.heap[gb433]?=some (.cells #[.string ((z9_ l0 x18_1).f0),.int .i64 ((z9_ l0 x18_1).f1),(.slice A432_2 ((z9_ l0 x18_1).f2).length c432_2),(.slice A432_3 ((z9_ l0 x18_1).f3).length c432_3),(.slice A432_4 ((z9_ l0 x18_1).f4).length c432_4)] 39 (0,0)))∧z0_ (Below w.heap.size w w'))
   case atStart=>exact ⟨(([]:List Int)),(0),(x432000_1),(u432000),mq_,H',⟨Nat.le_refl _⟩,⟨by first|exact Kd.R_nil _ _ _ _ _|exact Kd.N_nil _ _ _ _ _|exact Kd.V_nil _ _ _ _ _|exact Kd.Q_nil _ _ _ _ _|exact Kd.S_nil _ _ _ _ _⟩,⟨by (with_reducible repeat (first|apply Kd.zr_|apply Kd.y5_|apply Kd.yt_));exact Kd.xs_ (Kd.xx_ (p:=⟨gb433,4,none⟩) (Kd.xx_ (p:=⟨gb433,3,none⟩) (Kd.xx_ (p:=⟨gb433,2,none⟩) (Kd.xx_ (p:=⟨gb433,1,none⟩) (Kd.xx_ (p:=⟨gb433,0,none⟩) (Kd.wp_ HO_432000.out BK433.out (by decide)) (fun _ hk=>hk.2) (.string ((z9_ l0 x18_1).f0))) (fun _ hk=>hk.2) (.int .i64 ((z9_ l0 x18_1).f1))) (fun _ hk=>hk.2) (.slice A432_2 ((z9_ l0 x18_1).f2).length c432_2)) (fun _ hk=>hk.2) (.slice A432_3 ((z9_ l0 x18_1).f3).length c432_3)) (fun _ hk=>hk.2) (.slice A432_4 ((z9_ l0 x18_1).f4).length c432_4)) (fun _ hk=>trivial)⟩,⟨by (with_reducible repeat (first|apply Kd.zr_|apply Kd.y5_|apply Kd.yt_));exact Kd.xs_ (Kd.xx_ (p:=⟨gb433,4,none⟩) (Kd.xx_ (p:=⟨gb433,3,none⟩) (Kd.xx_ (p:=⟨gb433,2,none⟩) (Kd.xx_ (p:=⟨gb433,1,none⟩) (Kd.xx_ (p:=⟨gb433,0,none⟩) (Kd.wp_ HO_432001.out BK433.out (by decide)) (fun _ hk=>hk.2) (.string ((z9_ l0 x18_1).f0))) (fun _ hk=>hk.2) (.int .i64 ((z9_ l0 x18_1).f1))) (fun _ hk=>hk.2) (.slice A432_2 ((z9_ l0 x18_1).f2).length c432_2)) (fun _ hk=>hk.2) (.slice A432_3 ((z9_ l0 x18_1).f3).length c432_3)) (fun _ hk=>hk.2) (.slice A432_4 ((z9_ l0 x18_1).f4).length c432_4)) (fun _ hk=>(by simp [Value.ownBlock]))⟩,⟨mc_ BK429⟩,⟨mc_ BK431⟩,⟨mp_ BK433⟩,⟨mb_ HB⟩⟩
   clear H';(try clear c7b0);(try clear c8b0);(try clear c9b0);(try clear hx432_0);(try clear hx432_1);(try clear hx432_2);(try clear hx432_3);(try clear hx432_4);(try clear p432);(try clear q432);obtain ⟨x6_2,x25_2,x432000_2,u432000,rfl,HA,HK2,HO_6,HO_432000,HO_432001,BK429,BK431,BK433,HB⟩:=hrel;obtain _|k2:=gk
   ·exact absurd HA.out (by simp [zj_.l1])
   have H:=HA.out;clear HA;simp only [zj_.l1] at H;by_cases c14:x25_2<(((z9_ l0 x18_1).f2).length:Int)
   ·rw [if_pos c14] at H;have c14b0:=ct_ c14;clear c14;by_cases c15:0≤x25_2
    case neg=>
     rw [if_neg c15] at H;cases H
    rw [if_pos c15] at H;have c15b0:=ct_ c15;clear c15;by_cases c16:x25_2<(((z9_ l0 x18_1).f2).length:Int)
    case neg=>
     rw [if_neg c16] at H;cases H
    rw [if_pos c16] at H;have c16b0:=ct_ c16;clear c16;obtain ⟨⟨t439,t440,t441⟩,A17,H⟩:=ob_ H;have H':=a_ H;clear H;have p437:0≤(x25_2:Int):=md_
    have q437:x25_2<(((z9_ l0 x18_1).f2).length:Int):=md_
    obtain ⟨ad437,A437_2,c437_2,e437,hx437_0,hx437_1,hx437_2,hl437_2,hi437_2⟩:=at_T42 HR432_2.out x25_2 p437 q437;cases e437;replace hx437_0:=mx_ HB hx437_0;replace hx437_1:=mx_ HB hx437_1;replace hx437_2:=mx_ HB hx437_2;have HR437_2:=a_ hi437_2;have HC437_2:=a_ hl437_2;clear hi437_2 hl437_2;replace p437:=eq_true p437;replace q437:=eq_true q437;go_wp2_with (first|((with_reducible refine zl_ (N:=8) rfl ?_);refine bh_ 8 #[.bool false,.string (⟨#[]⟩:ByteArray),.slice none 0 0] 42 HB ?_;intro gb438 hg wx BK438 GE438 hb;obtain ⟨NB429_438,NB438_429⟩:=mn_ BK429 hg;obtain ⟨NB431_438,NB438_431⟩:=mn_ BK431 hg;obtain ⟨NB433_438,NB438_433⟩:=mn_ BK433 hg;replace HO_6:=ro_ HO_6 hb;replace HO_432000:=a_ (Kd.yr_ (by (with_reducible repeat (first|apply Kd.zr_|apply Kd.y5_|apply Kd.yt_));exact HO_432000.out) hb);replace HO_432001:=a_ (Kd.yr_ (by (with_reducible repeat (first|apply Kd.zr_|apply Kd.y5_|apply Kd.yt_));exact HO_432001.out) hb);replace BK429:=mk_ BK429 hb;replace BK431:=mk_ BK431 hb;replace BK433:=mk_ BK433 hb;replace HB:=ms_ HB hb;clear hb hg;have nNB438_429:=NB438_429.out;have nNB429_438:=NB429_438.out;have nNB438_431:=NB438_431.out;have nNB431_438:=NB431_438.out;have nNB438_433:=NB438_433.out;have nNB433_438:=NB433_438.out;replace hz438:=cz3 BK438)|((with_reducible refine zg_ (f:=10) rfl ?_);refine xf_ (some 30) rfl rfl Tryz.func10 (by kernel_rfl) rfl #[.agg #[.bool ((zq_ ((z9_ l0 x18_1).f2) x25_2).f0),.string ((zq_ ((z9_ l0 x18_1).f2) x25_2).f1),.slice A437_2 ((zq_ ((z9_ l0 x18_1).f2) x25_2).f2).length c437_2]] rfl mw_ ?_;(with_reducible refine (zy_.calls k2 ((zq_ ((z9_ l0 x18_1).f2) x25_2).f0) ((zq_ ((z9_ l0 x18_1).f2) x25_2).f1) _ _ ((zq_ ((z9_ l0 x18_1).f2) x25_2).f2) t439 t440 t441 _ ?side1 HC437_2.out A17.out).mono ?_);(case side1=>exact Kd.xo_ HR437_2.out (mb_ HB));rintro e wx ⟨v442,rfl,ho0,hb⟩;refine ⟨_,rfl,?_⟩;have HO443:=a_ (Kd.R_lower ho0 (zw_ (mb_ HB)));replace HO_6:=a_ (Kd.R_below ((Kd.yk_ (mf_ HO_6 BK438) (fun _ h_=>h_.1))) hb);replace HO_432000:=a_ (Kd.S_elder' (by (with_reducible repeat (first|apply Kd.zr_|apply Kd.y5_|apply Kd.yt_));exact (Kd.xs_ (Kd.xx_ (p:=⟨gb438,2,none⟩) (Kd.xx_ (p:=⟨gb438,1,none⟩) (Kd.xx_ (p:=⟨gb438,0,none⟩) (Kd.wp_ HO_432000.out BK438.out (by decide)) (fun _ hk=>hk.2) (.bool ((zq_ ((z9_ l0 x18_1).f2) x25_2).f0))) (fun _ hk=>hk.2) (.string ((zq_ ((z9_ l0 x18_1).f2) x25_2).f1))) (fun _ hk=>hk.2) (.slice A437_2 ((zq_ ((z9_ l0 x18_1).f2) x25_2).f2).length c437_2)) (fun _ h_=>h_.1))) (Kd.R_base ho0) hb);replace HO_432001:=a_ (Kd.yr_ (by (with_reducible repeat (first|apply Kd.zr_|apply Kd.y5_|apply Kd.yt_));exact (Kd.xs_ (Kd.xx_ (p:=⟨gb438,2,none⟩) (Kd.xx_ (p:=⟨gb438,1,none⟩) (Kd.xx_ (p:=⟨gb438,0,none⟩) (Kd.wp_ HO_432001.out BK438.out (by decide)) (fun _ hk=>hk.2) (.bool ((zq_ ((z9_ l0 x18_1).f2) x25_2).f0))) (fun _ hk=>hk.2) (.string ((zq_ ((z9_ l0 x18_1).f2) x25_2).f1))) (fun _ hk=>hk.2) (.slice A437_2 ((zq_ ((z9_ l0 x18_1).f2) x25_2).f2).length c437_2)) (fun _ h_=>h_.1))) hb);replace BK429:=mk_ BK429 hb;replace BK431:=mk_ BK431 hb;replace BK433:=mk_ BK433 hb;replace BK438:=a_ (zd_ (g:=gb438) (o:=.cells #[.bool ((zq_ ((z9_ l0 x18_1).f2) x25_2).f0),.string ((zq_ ((z9_ l0 x18_1).f2) x25_2).f1),.slice A437_2 ((zq_ ((z9_ l0 x18_1).f2) x25_2).f2).length c437_2] 42 (0,0)) (mp_ BK438) hb);replace HB:=ms_ HB hb;(try clear hb ho0))|((with_reducible refine zl_ (N:=9) rfl ?_);refine bh_ 9 #[.string (⟨#[]⟩:ByteArray),.int .i64 0,.slice none 0 0] 50 HB ?_;intro gb444 hg wx BK444 GE444 hb;obtain ⟨NB429_444,NB444_429⟩:=mn_ BK429 hg;obtain ⟨NB431_444,NB444_431⟩:=mn_ BK431 hg;obtain ⟨NB433_444,NB444_433⟩:=mn_ BK433 hg;obtain ⟨NB438_444,NB444_438⟩:=mn_ BK438 hg;replace HO_6:=ro_ HO_6 hb;replace HO_432000:=a_ (Kd.yr_ (Kd.S_elderB (by (with_reducible repeat (first|apply Kd.zr_|apply Kd.y5_|apply Kd.yt_));exact HO_432000.out) gb444 (Nat.le_of_eq hg.symm)) hb);replace HO_432001:=a_ (Kd.yr_ (by (with_reducible repeat (first|apply Kd.zr_|apply Kd.y5_|apply Kd.yt_));exact HO_432001.out) hb);replace HO443:=ro_ HO443 hb;replace BK429:=mk_ BK429 hb;replace BK431:=mk_ BK431 hb;replace BK433:=mk_ BK433 hb;replace BK438:=mk_ BK438 hb;replace HB:=ms_ HB hb;clear hb hg;have nNB444_429:=NB444_429.out;have nNB429_444:=NB429_444.out;have nNB444_431:=NB444_431.out;have nNB431_444:=NB431_444.out;have nNB444_433:=NB444_433.out;have nNB433_444:=NB433_444.out;have nNB444_438:=NB444_438.out;have nNB438_444:=NB438_444.out;replace hz444:=cz3 BK444;obtain ⟨Ao30,co30,eo30⟩:=Kd.yv_ HO443.out;subst eo30;have nNB431_429:=NB431_429.out;have nNB429_431:=NB429_431.out;have nNB431_433:=NB431_433.out;have nNB433_431:=NB433_431.out;replace hz431:=cz2 BK431;obtain ⟨Ao34,co34,eo34⟩:=Kd.S_slice HO_432000.out;subst eo34))
    go_loopg [10,34] k2 (fun kq v10 v34 w'=>∃(x10_3:Int) (x34_3:Int),v10=.int .i64 x10_3∧v34=.int .i64 x34_3∧z0_ (zj_.l2 kq x6_2 x10_3 l0 (l0.length:Int) x18_1 ((z9_ l0 x18_1).f2) (((z9_ l0 x18_1).f2).length:Int) x25_2 (x432000_2.length:Int) x34_3 x432000_2 x432001_1 t439 t440 t441=some (r1,r2))∧z0_ (kq≤k2)∧z0_ (Kd.R (Kd.int .i64) 3 w' w.heap.size (fun _=>True) u6 x6_2)∧z0_ (Kd.S k50 50 w' w.heap.size (fun k_=>some k_≠((.slice Ao30 t441.length co30):Value).ownBlock∧k_≠gb444) (.slice Ao34 x432000_2.length co34) x432000_2)∧z0_ (Kd.S (Kd.slice 3 (Kd.int .i64)) 43 w' w.heap.size (fun k_=>some k_≠(u6:Value).ownBlock) u432001 x432001_1)∧z0_ (Kd.R k82 82 w' w.heap.size (fun _=>True) (.slice Ao30 t441.length co30) t441)∧z0_ (w'.heap[gb429]?=some (.cells #[(.slice none 0 0),(.slice none 0 0)] 32 (0,0)))∧z0_ (w'.heap[gb431]?=some (.cells #[(.slice Ao34 x432000_2.length co34),u432001] 32 (0,0)))∧z0_ (w'.heap[gb433]?=some (.cells #[.string ((z9_ l0 x18_1).f0),.int .i64 ((z9_ l0 x18_1).f1),(.slice (some ad437) ((z9_ l0 x18_1).f2).length c432_2),(.slice A432_3 ((z9_ l0 x18_1).f3).length c432_3),(.slice A432_4 ((z9_ l0 x18_1).f4).length c432_4)] 39 (0,0)))∧z0_ (w'.heap[gb438]?=some (.cells #[.bool ((zq_ ((z9_ l0 x18_1).f2) x25_2).f0),.string ((zq_ ((z9_ l0 x18_1).f2) x25_2).f1),(.slice A437_2 ((zq_ ((z9_ l0 x18_1).f2) x25_2).f2).length c437_2)] 42 (0,0)))∧z0_ (w'.heap[gb444]?=some (.cells #[.string t439,.int .i64 t440,(.slice Ao30 t441.length co30)] 50 (0,0)))∧z0_ (Below w.heap.size w w'))
    case atStart=>exact ⟨((-1)),(0),mq_,mq_,H',⟨Nat.le_refl _⟩,⟨(Kd.yk_ (mf_ HO_6 BK444) (fun _ hk=>trivial))⟩,⟨by (with_reducible repeat (first|apply Kd.zr_|apply Kd.y5_|apply Kd.yt_));exact Kd.xs_ (Kd.xx_ (p:=⟨gb444,2,none⟩) (Kd.xx_ (p:=⟨gb444,1,none⟩) (Kd.xx_ (p:=⟨gb444,0,none⟩) (Kd.xs_ HO_432000.out (fun k_ hk=>(⟨hk,hk.2⟩:_∧k_≠gb444))) (fun _ hk=>hk.2) (.string t439)) (fun _ hk=>hk.2) (.int .i64 t440)) (fun _ hk=>hk.2) (.slice Ao30 t441.length co30)) (fun _ hk=>⟨hk.1.1.2,hk.1.2⟩)⟩,⟨by (with_reducible repeat (first|apply Kd.zr_|apply Kd.y5_|apply Kd.yt_));exact Kd.xs_ (Kd.xx_ (p:=⟨gb444,2,none⟩) (Kd.xx_ (p:=⟨gb444,1,none⟩) (Kd.xx_ (p:=⟨gb444,0,none⟩) (Kd.wp_ HO_432001.out BK444.out (by decide)) (fun _ hk=>hk.2) (.string t439)) (fun _ hk=>hk.2) (.int .i64 t440)) (fun _ hk=>hk.2) (.slice Ao30 t441.length co30)) (fun _ hk=>hk.1)⟩,⟨(Kd.yk_ (mf_ HO443 BK444) (fun _ hk=>trivial))⟩,⟨mc_ BK429⟩,⟨mc_ BK431⟩,⟨mc_ BK433⟩,⟨mc_ BK438⟩,⟨mp_ BK444⟩,⟨mb_ HB⟩⟩
    clear H';(try clear c14b0);(try clear c15b0);(try clear c16b0);(try clear hx437_0);(try clear hx437_1);(try clear hx437_2);(try clear p437);(try clear q437);obtain ⟨x10_3,x34_3,rfl,rfl,HA,HK3,HO_6,HO_432000,HO_432001,HO_445002,BK429,BK431,BK433,BK438,BK444,HB⟩:=hrel;obtain _|k3:=gk
    ·exact absurd HA.out (by simp [zj_.l2])
    have H:=HA.out;clear HA;simp only [zj_.l2] at H;by_cases c35:x34_3<(x432000_2.length:Int)
    ·rw [if_pos c35] at H;have c35b0:=ct_ c35;clear c35;by_cases c36:0≤x34_3
     case neg=>
      rw [if_neg c36] at H;cases H
     rw [if_pos c36] at H;have c36b0:=ct_ c36;clear c36;by_cases c37:x34_3<(x432000_2.length:Int)
     case neg=>
      rw [if_neg c37] at H;cases H
     rw [if_pos c37] at H;have c37b0:=ct_ c37;clear c37;obtain ⟨t446,A38,H⟩:=ob_ H;have HD:=a_ H;clear H;try go_wp2
     replace HO_6:=a_ (Kd.R_drew HO_6.out);replace HO_432000:=a_ (Kd.yt_ HO_432000.out);replace HO_432001:=a_ (Kd.yt_ HO_432001.out);replace HO_445002:=a_ (Kd.R_drew HO_445002.out);replace BK429:=a_ (xp_ BK429.out);replace BK431:=a_ (xp_ BK431.out);replace BK433:=a_ (xp_ BK433.out);replace BK438:=a_ (xp_ BK438.out);replace BK444:=a_ (xp_ BK444.out);replace HB:=a_ (x2_ HB.out);have p445:0≤(x34_3:Int):=md_
     have q445:x34_3<(x432000_2.length:Int):=md_
     obtain ⟨ad445,A445_2,c445_2,e445,hx445_0,hx445_1,hx445_2,hl445_2,hi445_2⟩:=at_T50 (Kd.S_reads' HO_432000.out).2.2 x34_3 p445 q445;cases e445;obtain ⟨ce445,hce445,hMe445,hcc445⟩:=Kd.S_get HO_432000.out z50 x34_3 p445 (by first|exact q445|exact md_|(have e_:=(Kd.S_reads' HO_432000.out).1;omega));obtain ⟨ve445_2,rfl,ge445_2⟩:=k50_openM hMe445;have hv445_2:=hcc445 2 _ rfl;rw [yq_ _ _ 2 (by omega)] at hv445_2;replace hv445_2:=Option.some.inj (hv445_2.symm.trans hx445_2);rw [hv445_2] at ge445_2;have HL445_2:=a_ (show Kd.R k82 82 _ _ _ _ ((xg_ x432000_2 x34_3).f2) from ge445_2);clear hv445_2 ge445_2;clear hcc445 hce445;have HR445_2:=a_ hi445_2;have HC445_2:=a_ hl445_2;clear hi445_2 hl445_2;replace p445:=eq_true p445;replace q445:=eq_true q445;refine start_ (n:=7) (S:=fun w'=>w'.cell? ⟨gb431,0,none⟩=some (.slice (some ad445) x432000_2.length co34)∧w'.cell? ⟨gb431,1,none⟩=some (u432001)∧w'.cell? ⟨gb444,0,none⟩=some (.string t439)∧w'.cell? ⟨gb444,1,none⟩=some (.int .i64 t440)∧w'.cell? ⟨gb444,2,none⟩=some (.slice Ao30 t441.length co30)∧w'.cell? (ad445.add ((x34_3).toNat*3))=some (.string ((xg_ x432000_2 x34_3).f0))∧w'.cell? ⟨(ad445.add ((x34_3).toNat*3)).block,(ad445.add ((x34_3).toNat*3)).off+1,none⟩=some (.int .i64 ((xg_ x432000_2 x34_3).f1))∧w'.cell? ⟨(ad445.add ((x34_3).toNat*3)).block,(ad445.add ((x34_3).toNat*3)).off+2,none⟩=some (.slice A445_2 ((xg_ x432000_2 x34_3).f2).length c445_2)) (ds:=[]) b548_0 (by kernel_rfl) rfl rfl ⟨bk_ BK431 0,bk_ BK431 1,bk_ BK444 0,bk_ BK444 1,bk_ BK444 2,hx445_0,hx445_1,hx445_2⟩ (fun hHeld=>?_);generalize wr.drew=wq0 at HO_6 HO_432000 HO_432001 HO_445002 BK429 BK431 BK433 BK438 BK444 HB HL445_2 HR445_2 hx445_0 hx445_1 hx445_2 hHeld ⊢;refine pure_ (i:=0) (N:=some 37) (v:=?_) (a':=?_) b548_1 rfl rfl (by kernel_rfl) (fun _ _ _ h=>h) (Or.inl ⟨by rfl,?_⟩) ?_ ?_;rotate_left
     ·intro w';go_simp;with_reducible rfl
     rotate_left
     ·simp only [Act.put,ps_];rfl
     refine pure_ (i:=2) (N:=some 39) (v:=?_) (a':=?_) b548_2 rfl rfl (by kernel_rfl) (fun _ _ _ h=>h) (Or.inl ⟨by rfl,?_⟩) ?_ ?_;rotate_left
     ·intro w';go_simp;with_reducible rfl
     rotate_left
     ·simp only [Act.put,ps_];rfl
     refine take_ (i:=1) (N:=some 38) (v:=?_) (a':=?_) b548_3 rfl rfl (by kernel_rfl) (fun _ _ _ h=>h) (Or.inl ⟨by rfl,?_⟩) hHeld ?_ ?_;rotate_left
     ·rintro w' ⟨s0,s1,s2,s3,s4,s5,s6,s7⟩;go_simp;with_reducible rfl
     rotate_left
     ·simp only [Act.put,ps_];rfl
     refine pure_ (i:=3) (N:=some 40) (v:=?_) (a':=?_) b548_4 rfl rfl (by kernel_rfl) (fun _ _ _ h=>h) (Or.inl ⟨by rfl,?_⟩) ?_ ?_;rotate_left
     ·intro w';go_simp;with_reducible rfl
     rotate_left
     ·simp only [Act.put,ps_];rfl
     refine take_ (i:=4) (N:=some 41) (v:=?_) (a':=?_) b548_5 rfl rfl (by kernel_rfl) (fun _ _ _ h=>h) (Or.inl ⟨by rfl,?_⟩) hHeld ?_ ?_;rotate_left
     ·rintro w' ⟨s0,s1,s2,s3,s4,s5,s6,s7⟩;go_simp;with_reducible rfl
     rotate_left
     ·simp only [Act.put,ps_];rfl
     refine take_ (i:=5) (N:=some 42) (v:=?_) (a':=?_) b548_6 rfl rfl (by kernel_rfl) (fun _ _ _ h=>h) (Or.inl ⟨by rfl,?_⟩) hHeld ?_ ?_;rotate_left
     ·rintro w' ⟨s0,s1,s2,s3,s4,s5,s6,s7⟩;go_simp;with_reducible rfl
     rotate_left
     ·simp only [Act.put,ps_];rfl
     have H:=HD.out;clear HD;by_cases c39:t446=true
     ·subst c39;rw [if_pos rfl] at H;have H':=a_ H;clear H;refine one_ (i:=6) (N:=some 43) b548_7 rfl rfl (by kernel_rfl) (by decide) (fun K hK=>?_);refine goes_ Tryz.func52 (by kernel_rfl) rfl #[.agg #[.string ((xg_ x432000_2 x34_3).f0),.int .i64 ((xg_ x432000_2 x34_3).f1),.slice A445_2 ((xg_ x432000_2 x34_3).f2).length c445_2],.agg #[.string t439,.int .i64 t440,.slice Ao30 t441.length co30]] (by rfl) rfl rfl mw_ ?_;with_reducible refine (y2_.calls k3 ((xg_ x432000_2 x34_3).f0) ((xg_ x432000_2 x34_3).f1) _ _ ((xg_ x432000_2 x34_3).f2) t439 t440 _ _ t441 true _ ?side1 ?side2 ?side3 ?side4 A38.out).mono ?_
      (case side1=>repeat (first|exact (by repeat (first|(with_reducible exact HR445_2.out)|(with_reducible refine Kd.C_alloc ?_ _)|(with_reducible refine Kd.C_drewN ?_ _)|(with_reducible refine Kd.C_drew ?_)|exact HR445_2.out))|(with_reducible refine Kd.C_alloc ?_ _)|(with_reducible refine Kd.C_drewN ?_ _)|(with_reducible refine Kd.C_drew ?_)))
      (case side2=>exact HC445_2.out)
      (case side3=>repeat (first|exact (Kd.yb_ HO_445002.out).2.2|(with_reducible refine Kd.C_alloc ?_ _)|(with_reducible refine Kd.C_drewN ?_ _)|(with_reducible refine Kd.C_drew ?_)))
      (case side4=>exact (Kd.yb_ HO_445002.out).2.1)
      rintro e wq1 ⟨rfl,hb⟩;have HS5_:=(hb.cell (World.block_lt_of_cell? _ _ (hHeld.2.2.2.2.2.1))).trans (hHeld.2.2.2.2.2.1);have HS6_:=(hb.cell (World.block_lt_of_cell? _ _ (hHeld.2.2.2.2.2.2.1))).trans (hHeld.2.2.2.2.2.2.1);have HS7_:=(hb.cell (World.block_lt_of_cell? _ _ (hHeld.2.2.2.2.2.2.2))).trans (hHeld.2.2.2.2.2.2.2);refine ⟨_,rfl,?_⟩;replace HO_6:=ro_ HO_6 hb;replace HO_432000:=a_ (Kd.yr_ (by (with_reducible repeat (first|apply Kd.zr_|apply Kd.y5_|apply Kd.yt_));exact HO_432000.out) hb);replace HO_432001:=a_ (Kd.yr_ (by (with_reducible repeat (first|apply Kd.zr_|apply Kd.y5_|apply Kd.yt_));exact HO_432001.out) hb);replace HO_445002:=ro_ HO_445002 hb;replace HL445_2:=a_ (Kd.R_below (mo_ HL445_2.out) hb);replace BK429:=mk_ BK429 hb;replace BK431:=mk_ BK431 hb;replace BK433:=mk_ BK433 hb;replace BK438:=mk_ BK438 hb;replace BK444:=mk_ BK444 hb;replace HR445_2:=a_ (Kd.xo_ (by repeat (first|(with_reducible exact HR445_2.out)|(with_reducible refine Kd.C_alloc ?_ _)|(with_reducible refine Kd.C_drewN ?_ _)|(with_reducible refine Kd.C_drew ?_)|exact HR445_2.out)) hb);replace HB:=ms_ HB hb;(try clear hb);(try clear hb2);(try clear hk);(try clear hi);refine hK.out _ _ ⟨bk_ BK431 0,bk_ BK431 1,bk_ BK444 0,bk_ BK444 1,bk_ BK444 2,HS5_,HS6_,HS7_⟩ (fun hHeld=>?_);clear hK K;refine nm_ 43 ?_;refine done_ (by kernel_rfl) ?_;try go_wp2
      go_roundg k3
      case measure=>
       have:=HK1.out
       have:=HK2.out
       have:=HK3.out
       omega
      case rel=>exact ⟨(x34_3),(wrap64 (x34_3+1)),mq_,mq_,H',⟨by have:=HK1.out;have:=HK2.out;have:=HK3.out;omega⟩,⟨mo_ HO_6.out⟩,⟨by (with_reducible repeat (first|apply Kd.zr_|apply Kd.y5_|apply Kd.yt_));exact HO_432000.out⟩,⟨by (with_reducible repeat (first|apply Kd.zr_|apply Kd.y5_|apply Kd.yt_));exact HO_432001.out⟩,⟨mo_ HO_445002.out⟩,⟨mc_ BK429⟩,⟨mc_ BK431⟩,⟨mc_ BK433⟩,⟨mc_ BK438⟩,⟨mc_ BK444⟩,⟨mb_ HB⟩⟩
     ·replace c39:=Bool.eq_false_iff.mpr c39;subst c39;rw [if_neg (show ¬(false=true) by decide)] at H;have H':=a_ H;clear H;refine one_ (i:=6) (N:=some 43) b548_7 rfl rfl (by kernel_rfl) (by decide) (fun K hK=>?_);refine goes_ Tryz.func52 (by kernel_rfl) rfl #[.agg #[.string ((xg_ x432000_2 x34_3).f0),.int .i64 ((xg_ x432000_2 x34_3).f1),.slice A445_2 ((xg_ x432000_2 x34_3).f2).length c445_2],.agg #[.string t439,.int .i64 t440,.slice Ao30 t441.length co30]] (by rfl) rfl rfl mw_ ?_;with_reducible refine (y2_.calls k3 ((xg_ x432000_2 x34_3).f0) ((xg_ x432000_2 x34_3).f1) _ _ ((xg_ x432000_2 x34_3).f2) t439 t440 _ _ t441 false _ ?side1 ?side2 ?side3 ?side4 A38.out).mono ?_
      (case side1=>repeat (first|exact (by repeat (first|(with_reducible exact HR445_2.out)|(with_reducible refine Kd.C_alloc ?_ _)|(with_reducible refine Kd.C_drewN ?_ _)|(with_reducible refine Kd.C_drew ?_)|exact HR445_2.out))|(with_reducible refine Kd.C_alloc ?_ _)|(with_reducible refine Kd.C_drewN ?_ _)|(with_reducible refine Kd.C_drew ?_)))
      (case side2=>exact HC445_2.out)
      (case side3=>repeat (first|exact (Kd.yb_ HO_445002.out).2.2|(with_reducible refine Kd.C_alloc ?_ _)|(with_reducible refine Kd.C_drewN ?_ _)|(with_reducible refine Kd.C_drew ?_)))
      (case side4=>exact (Kd.yb_ HO_445002.out).2.1)
      rintro e wq1 ⟨rfl,hb⟩;have HS5_:=(hb.cell (World.block_lt_of_cell? _ _ (hHeld.2.2.2.2.2.1))).trans (hHeld.2.2.2.2.2.1);have HS6_:=(hb.cell (World.block_lt_of_cell? _ _ (hHeld.2.2.2.2.2.2.1))).trans (hHeld.2.2.2.2.2.2.1);have HS7_:=(hb.cell (World.block_lt_of_cell? _ _ (hHeld.2.2.2.2.2.2.2))).trans (hHeld.2.2.2.2.2.2.2);refine ⟨_,rfl,?_⟩;replace HO_6:=ro_ HO_6 hb;replace HO_432000:=a_ (Kd.yr_ (by (with_reducible repeat (first|apply Kd.zr_|apply Kd.y5_|apply Kd.yt_));exact HO_432000.out) hb);replace HO_432001:=a_ (Kd.yr_ (by (with_reducible repeat (first|apply Kd.zr_|apply Kd.y5_|apply Kd.yt_));exact HO_432001.out) hb);replace HO_445002:=ro_ HO_445002 hb;replace HL445_2:=a_ (Kd.R_below (mo_ HL445_2.out) hb);replace BK429:=mk_ BK429 hb;replace BK431:=mk_ BK431 hb;replace BK433:=mk_ BK433 hb;replace BK438:=mk_ BK438 hb;replace BK444:=mk_ BK444 hb;replace HR445_2:=a_ (Kd.xo_ (by repeat (first|(with_reducible exact HR445_2.out)|(with_reducible refine Kd.C_alloc ?_ _)|(with_reducible refine Kd.C_drewN ?_ _)|(with_reducible refine Kd.C_drew ?_)|exact HR445_2.out)) hb);replace HB:=ms_ HB hb;(try clear hb);(try clear hb2);(try clear hk);(try clear hi);refine hK.out _ _ ⟨bk_ BK431 0,bk_ BK431 1,bk_ BK444 0,bk_ BK444 1,bk_ BK444 2,HS5_,HS6_,HS7_⟩ (fun hHeld=>?_);clear hK K;refine nm_ 43 ?_;refine done_ (by kernel_rfl) ?_;try go_wp2
      go_roundg k3
      case measure=>
       have:=HK1.out
       have:=HK2.out
       have:=HK3.out
       omega
      case rel=>exact ⟨(x10_3),(wrap64 (x34_3+1)),mq_,mq_,H',⟨by have:=HK1.out;have:=HK2.out;have:=HK3.out;omega⟩,⟨mo_ HO_6.out⟩,⟨by (with_reducible repeat (first|apply Kd.zr_|apply Kd.y5_|apply Kd.yt_));exact HO_432000.out⟩,⟨by (with_reducible repeat (first|apply Kd.zr_|apply Kd.y5_|apply Kd.yt_));exact HO_432001.out⟩,⟨mo_ HO_445002.out⟩,⟨mc_ BK429⟩,⟨mc_ BK431⟩,⟨mc_ BK433⟩,⟨mc_ BK438⟩,⟨mc_ BK444⟩,⟨mb_ HB⟩⟩
    ·rw [if_neg c35] at H;have c35b0:=cf_ c35;clear c35;by_cases c44:x10_3<0
     ·rw [if_pos c44] at H;have c44b0:=ct_ c44;clear c44;by_cases c45:x432000_2.length<2932031007402
      case neg=>
       rw [if_neg c45] at H;cases H
      rw [if_pos c45] at H;have LMc45:=a_ c45;clear c45;obtain ⟨y447,hy447⟩:∃y_:List (S50),y_=(x432000_2++[(⟨t439,t440,t441⟩:S50)]):=⟨_,rfl⟩;rw [←hy447] at H;(try rw [Option.bind_some] at H);have Ny447:=a_ hy447;clear hy447;by_cases c46:x6_2.length<17592186044416
      case neg=>
       rw [if_neg c46] at H;cases H
      rw [if_pos c46] at H;have LMc46:=a_ c46;clear c46;obtain ⟨y450,hy450⟩:∃y_:List Int,y_=(x6_2++[(x432000_2.length:Int)]):=⟨_,rfl⟩;rw [←hy450] at H;(try rw [Option.bind_some] at H);have Ny450:=a_ hy450;clear hy450;have H':=a_ H;clear H;have nNB431_429:=NB431_429.out;have nNB429_431:=NB429_431.out;have nNB431_433:=NB431_433.out;have nNB433_431:=NB433_431.out;have nNB431_438:=NB431_438.out;have nNB438_431:=NB438_431.out;have nNB431_444:=NB431_444.out;have nNB444_431:=NB444_431.out;replace hz431:=cz2 BK431;have nNB444_429:=NB444_429.out;have nNB429_444:=NB429_444.out;have nNB444_433:=NB444_433.out;have nNB433_444:=NB433_444.out;have nNB444_438:=NB444_438.out;have nNB438_444:=NB438_444.out;replace hz444:=cz3 BK444;go_wp2_with (first|((with_reducible refine gate_builtin (b:=.append) (xs:=#[.tmp 52,.tmp 54]) rfl ?_);at_builtin;refine Kd.S_append k50 (w0:=w) w.heap.size rfl (.tmp 52) (.tmp 54) 29 50 (.agg #[(.string ⟨#[]⟩),(.int .i64 0),(.slice none 0 0)]) 48 rfl Tryz.underlying29 info50 rfl (by decide) (by omega) (.slice Ao34 x432000_2.length co34) x432000_2 (⟨t439,t440,t441⟩:S50) [.string t439,.int .i64 t440,.slice Ao30 t441.length co30] (fun k_=>k_≠gb444) (fun k_=>some k_=(.slice Ao30 t441.length co30:Value).ownBlock) rfl rfl ?aP (fun k_ hk_=>((Kd.yk_ (ok':=fun k_=>((fun k_=>k_≠gb444)) k_∧some k_≠(.slice Ao34 x432000_2.length co34:Value).ownBlock) (Kd.R_types (Kd.R_apart' (HO_445002.out) (Kd.S_typed HO_432000.out) (by decide)) BK444.out (by decide)) (fun k_ hk=>⟨hk.2,hk.1.2⟩))).1 k_ hk_.symm) ?aF ?aO ?aB ?aS ?aL ?_;(case aP=>exact k50_mkM _ _ _ (⟨t439,t440,t441⟩:S50) (Kd.yk_ (Kd.R_tight rfl (Kd.yk_ (ok':=fun k_=>((fun k_=>k_≠gb444)) k_∧some k_≠(.slice Ao34 x432000_2.length co34:Value).ownBlock) (Kd.R_types (Kd.R_apart' (HO_445002.out) (Kd.S_typed HO_432000.out) (by decide)) BK444.out (by decide)) (fun k_ hk=>⟨hk.2,hk.1.2⟩))) (fun _ h_=>h_)));(case aB=>exact (mb_ HB));(case aF=>exact (fun k_ hk=>Kd.freshB (g:=gb444) (o:=.cells #[.string t439,.int .i64 t440,.slice Ao30 t441.length co30] 50 (0,0)) (mc_ BK444) k_ hk));(case aO=>exact (by (with_reducible repeat (first|apply Kd.zr_|apply Kd.y5_|apply Kd.yt_));exact Kd.xs_ HO_432000.out (fun k_ hk=>⟨hk.2,fun e_=>hk.1 e_⟩)));(case aS=>exact (zw_ (mb_ HB)));(case aL=>have:=LMc45.out;omega);intro v448 wx ho hb hg hat;rw [←Ny447.out] at ho;have HO449:=a_ (ho);replace HO_6:=a_ (Kd.R_over' (mo_ HO_6.out) (Kd.S_typed (by (with_reducible repeat (first|apply Kd.zr_|apply Kd.y5_|apply Kd.yt_));exact HO_432000.out)) (by decide) hg);replace HO_432001:=a_ (Kd.S_over' (by (with_reducible repeat (first|apply Kd.zr_|apply Kd.y5_|apply Kd.yt_));exact HO_432001.out) (Kd.S_typed (by (with_reducible repeat (first|apply Kd.zr_|apply Kd.y5_|apply Kd.yt_));exact HO_432000.out)) (by decide) hg);replace BK429:=a_ (zk_ (mc_ BK429) hg (Kd.S_ne HO_432000.out BK429.out (by decide)));replace BK431:=a_ (zk_ (mc_ BK431) hg (Kd.S_ne HO_432000.out BK431.out (by decide)));replace BK433:=a_ (zk_ (mc_ BK433) hg (Kd.S_ne HO_432000.out BK433.out (by decide)));replace BK438:=a_ (zk_ (mc_ BK438) hg (Kd.S_ne HO_432000.out BK438.out (by decide)));replace BK444:=a_ (zk_ (mc_ BK444) hg (Kd.S_away HO_432000.out (fun _ hk=>hk.2)));replace HB:=a_ (hb);clear HO_432000 HO_445002;clear ho hb hg hat;obtain ⟨Ao57,co57,eo57⟩:=Kd.S_slice HO449.out;subst eo57;replace hz431:=cz2 BK431)|((with_reducible refine gate_builtin (b:=.append) (xs:=#[.tmp 57,.tmp 59]) rfl ?_);at_builtin;refine Kd.R_append (Kd.int .i64) (w0:=w) w.heap.size rfl (.tmp 57) (.tmp 59) 43 3 (.int .i64 0) 8 rfl Tryz.underlying43 info3 rfl (by decide) (by omega) u6 x6_2 (x432000_2.length:Int) [.int .i64 (x432000_2.length:Int)] (fun _=>True) (fun _=>False) rfl (by first|(go_simp;done)|(go_simp;rfl)) ?aP (fun _ hk=>hk.elim) ?aF ?aO ?aB ?aS ?aL ?_;(case aP=>exact rfl);(case aB=>exact (mb_ HB));(case aF=>exact (fun _ _=>trivial));(case aO=>exact ((Kd.yk_ (mf_ HO_6 BK431) (fun _ hk=>trivial))));(case aS=>exact (zw_ (mb_ HB)));(case aL=>have:=LMc46.out;omega);intro v451 wx ho hb hg hat;rw [←Ny450.out] at ho;have n0_:=a_ (Kd.S_after (ok:=(fun _=>True)) (by (with_reducible repeat (first|apply Kd.zr_|apply Kd.y5_|apply Kd.yt_));exact Kd.xs_ (Kd.xx_ (p:=⟨gb431,0,none⟩) (Kd.wp_ HO_432001.out BK431.out (by decide)) (fun _ hk=>hk.2) (.slice Ao57 y447.length co57)) (fun _ hk=>⟨trivial,hk.1⟩)) hg hat);have n1_:=a_ (zk_ (mc_ BK429) hg (Kd.R_ne HO_6.out BK429.out (by decide)));have n2_:=a_ (zk_ (g:=gb431) (o:=.cells #[.slice Ao57 y447.length co57,u432001] 32 (0,0)) (mp_ BK431) hg (Kd.R_ne HO_6.out BK431.out (by decide)));have n3_:=a_ (zk_ (mc_ BK433) hg (Kd.R_ne HO_6.out BK433.out (by decide)));have n4_:=a_ (zk_ (mc_ BK438) hg (Kd.R_ne HO_6.out BK438.out (by decide)));have n5_:=a_ (zk_ (mc_ BK444) hg (Kd.R_ne HO_6.out BK444.out (by decide)));have n6_:=a_ (Kd.S_over' (by (with_reducible repeat (first|apply Kd.zr_|apply Kd.y5_|apply Kd.yt_));exact (Kd.xs_ (Kd.xx_ (p:=⟨gb431,0,none⟩) (Kd.wp_ HO449.out BK431.out (by decide)) (fun _ hk=>hk.2) (.slice Ao57 y447.length co57)) (fun _ h_=>h_.1))) (Kd.R_typed ((Kd.yk_ (mf_ HO_6 BK431) (fun _ h_=>h_.1)))) (by decide) hg);have n7_:=a_ (hb);have n8_:=a_ (ho);clear HO_432001;clear BK429;clear BK431;clear BK433;clear BK438;clear BK444;clear HO449;clear HB;clear HO_6;have HO_432001:=n0_;have BK429:=n1_;have BK431:=n2_;have BK433:=n3_;have BK438:=n4_;have BK444:=n5_;have HO449:=n6_;have HB:=n7_;have HO452:=n8_;clear n0_ n1_ n2_ n3_ n4_ n5_ n6_ n7_ n8_;clear ho hb hg hat))
      go_roundg k3
      case measure=>
       have:=HK1.out
       have:=HK2.out
       have:=HK3.out
       omega
      case rel=>exact ⟨(y450),(wrap64 (x25_2+1)),(y447),(.slice Ao57 y447.length co57),mq_,H',⟨by have:=HK1.out;have:=HK2.out;have:=HK3.out;omega⟩,⟨mo_ HO452.out⟩,⟨by (with_reducible repeat (first|apply Kd.zr_|apply Kd.y5_|apply Kd.yt_));exact Kd.xs_ HO449.out (fun _ hk=>trivial)⟩,⟨by (with_reducible repeat (first|apply Kd.zr_|apply Kd.y5_|apply Kd.yt_));exact Kd.xs_ HO_432001.out (fun _ hk=>hk.2)⟩,⟨mc_ BK429⟩,⟨mc_ BK431⟩,⟨mc_ BK433⟩,⟨mb_ HB⟩⟩
     ·rw [if_neg c44] at H;have c44b0:=cf_ c44;clear c44;by_cases c60:x6_2.length<17592186044416
      case neg=>
       rw [if_neg c60] at H;cases H
      rw [if_pos c60] at H;have LMc60:=a_ c60;clear c60;obtain ⟨y453,hy453⟩:∃y_:List Int,y_=(x6_2++[x10_3]):=⟨_,rfl⟩;rw [←hy453] at H;(try rw [Option.bind_some] at H);have Ny453:=a_ hy453;clear hy453;have H':=a_ H;clear H;go_wp2_with (first|((with_reducible refine gate_builtin (b:=.append) (xs:=#[.tmp 57,.tmp 59]) rfl ?_);at_builtin;refine Kd.R_append (Kd.int .i64) (w0:=w) w.heap.size rfl (.tmp 57) (.tmp 59) 43 3 (.int .i64 0) 8 rfl Tryz.underlying43 info3 rfl (by decide) (by omega) u6 x6_2 x10_3 [.int .i64 x10_3] (fun _=>True) (fun _=>False) rfl rfl ?aP (fun _ hk=>hk.elim) ?aF ?aO ?aB ?aS ?aL ?_;(case aP=>exact rfl);(case aB=>exact (mb_ HB));(case aF=>exact (fun _ _=>trivial));(case aO=>exact (mo_ HO_6.out));(case aS=>exact (zw_ (mb_ HB)));(case aL=>have:=LMc60.out;omega);intro v454 wx ho hb hg hat;rw [←Ny453.out] at ho;have HO455:=a_ (ho);replace HO_432000:=a_ (Kd.S_over' (by (with_reducible repeat (first|apply Kd.zr_|apply Kd.y5_|apply Kd.yt_));exact HO_432000.out) (Kd.R_typed (mo_ HO_6.out)) (by decide) hg);replace HO_432001:=a_ (Kd.S_after (ok:=(fun _=>True)) (by (with_reducible repeat (first|apply Kd.zr_|apply Kd.y5_|apply Kd.yt_));exact Kd.xs_ HO_432001.out (fun _ hk=>⟨trivial,hk⟩)) hg hat);replace HO_445002:=a_ (Kd.R_over' (mo_ HO_445002.out) (Kd.R_typed (mo_ HO_6.out)) (by decide) hg);replace BK429:=a_ (zk_ (mc_ BK429) hg (Kd.R_ne HO_6.out BK429.out (by decide)));replace BK431:=a_ (zk_ (mc_ BK431) hg (Kd.R_ne HO_6.out BK431.out (by decide)));replace BK433:=a_ (zk_ (mc_ BK433) hg (Kd.R_ne HO_6.out BK433.out (by decide)));replace BK438:=a_ (zk_ (mc_ BK438) hg (Kd.R_ne HO_6.out BK438.out (by decide)));replace BK444:=a_ (zk_ (mc_ BK444) hg (Kd.R_ne HO_6.out BK444.out (by decide)));replace HB:=a_ (hb);clear HO_6;clear ho hb hg hat));go_roundg k3
      case measure=>
       have:=HK1.out
       have:=HK2.out
       have:=HK3.out
       omega
      case rel=>exact ⟨(y453),(wrap64 (x25_2+1)),(x432000_2),(.slice Ao34 x432000_2.length co34),mq_,H',⟨by have:=HK1.out;have:=HK2.out;have:=HK3.out;omega⟩,⟨mo_ HO455.out⟩,⟨by (with_reducible repeat (first|apply Kd.zr_|apply Kd.y5_|apply Kd.yt_));exact Kd.xs_ HO_432000.out (fun _ hk=>trivial)⟩,⟨by (with_reducible repeat (first|apply Kd.zr_|apply Kd.y5_|apply Kd.yt_));exact Kd.xs_ HO_432001.out (fun _ hk=>hk.2)⟩,⟨mc_ BK429⟩,⟨mc_ BK431⟩,⟨mc_ BK433⟩,⟨mb_ HB⟩⟩
   ·rw [if_neg c14] at H;have c14b0:=cf_ c14;clear c14;by_cases c62:x432001_1.length<5864062014805
    case neg=>
     rw [if_neg c62] at H;cases H
    rw [if_pos c62] at H;have LMc62:=a_ c62;clear c62;obtain ⟨y434,hy434⟩:∃y_:List (List Int),y_=(x432001_1++[x6_2]):=⟨_,rfl⟩;rw [←hy434] at H;(try rw [Option.bind_some] at H);have Ny434:=a_ hy434;clear hy434;have H':=a_ H;clear H;have nNB431_429:=NB431_429.out;have nNB429_431:=NB429_431.out;have nNB431_433:=NB431_433.out;have nNB433_431:=NB433_431.out;replace hz431:=cz2 BK431;obtain ⟨Ao67,co67,eo67⟩:=Kd.yv_ HO_6.out;subst eo67;go_wp2_with (first|((with_reducible refine gate_builtin (b:=.append) (xs:=#[.tmp 63,.tmp 65]) rfl ?_);at_builtin;refine Kd.S_append (Kd.slice 3 (Kd.int .i64)) (w0:=w) w.heap.size rfl (.tmp 63) (.tmp 65) 30 43 (.slice none 0 0) 24 rfl Tryz.underlying30 info43 rfl (by decide) (by omega) u432001 x432001_1 x6_2 [.slice Ao67 x6_2.length co67] (fun _=>True) (fun k_=>some k_=(.slice Ao67 x6_2.length co67:Value).ownBlock) rfl rfl ?aP (fun k_ hk_=>((Kd.yk_ (ok':=fun k_=>((fun _=>True)) k_∧some k_≠(u432001:Value).ownBlock) (Kd.R_apart' (HO_6.out) (Kd.S_typed HO_432001.out) (by decide)) (fun k_ hk=>⟨trivial,hk.2⟩))).1 k_ hk_.symm) ?aF ?aO ?aB ?aS ?aL ?_;(case aP=>exact Kd.M_row (Kd.yk_ (Kd.R_tight rfl (Kd.yk_ (ok':=fun k_=>((fun _=>True)) k_∧some k_≠(u432001:Value).ownBlock) (Kd.R_apart' (HO_6.out) (Kd.S_typed HO_432001.out) (by decide)) (fun k_ hk=>⟨trivial,hk.2⟩))) (fun _ h_=>h_)));(case aB=>exact (mb_ HB));(case aF=>exact (fun _ _=>trivial));(case aO=>exact (by (with_reducible repeat (first|apply Kd.zr_|apply Kd.y5_|apply Kd.yt_));exact Kd.xs_ HO_432001.out (fun k_ hk=>⟨trivial,fun e_=>hk e_⟩)));(case aS=>exact (zw_ (mb_ HB)));(case aL=>have:=LMc62.out;omega);intro v435 wx ho hb hg hat;rw [←Ny434.out] at ho;have HO436:=a_ (ho);replace HO_432000:=a_ (Kd.S_over' (by (with_reducible repeat (first|apply Kd.zr_|apply Kd.y5_|apply Kd.yt_));exact HO_432000.out) (Kd.S_typed (by (with_reducible repeat (first|apply Kd.zr_|apply Kd.y5_|apply Kd.yt_));exact HO_432001.out)) (by decide) hg);replace BK429:=a_ (zk_ (mc_ BK429) hg (Kd.S_ne HO_432001.out BK429.out (by decide)));replace BK431:=a_ (zk_ (mc_ BK431) hg (Kd.S_ne HO_432001.out BK431.out (by decide)));replace BK433:=a_ (zk_ (mc_ BK433) hg (Kd.S_ne HO_432001.out BK433.out (by decide)));replace HB:=a_ (hb);clear HO_432001 HO_6;clear ho hb hg hat;obtain ⟨Ao68,co68,eo68⟩:=Kd.S_slice HO436.out;subst eo68;replace hz431:=cz2 BK431));go_roundg k2
    case measure=>
     have:=HK1.out
     have:=HK2.out
     omega
    case rel=>exact ⟨(wrap64 (x18_1+1)),(x432000_2),(y434),(u432000),(.slice Ao68 y434.length co68),mq_,H',⟨by have:=HK1.out;have:=HK2.out;omega⟩,⟨by (with_reducible repeat (first|apply Kd.zr_|apply Kd.y5_|apply Kd.yt_));exact Kd.xs_ (Kd.xx_ (p:=⟨gb431,1,none⟩) (Kd.wp_ HO_432000.out BK431.out (by decide)) (fun _ hk=>hk.2) (.slice Ao68 y434.length co68)) (fun _ hk=>trivial)⟩,⟨by (with_reducible repeat (first|apply Kd.zr_|apply Kd.y5_|apply Kd.yt_));exact Kd.xs_ (Kd.xx_ (p:=⟨gb431,1,none⟩) (Kd.wp_ HO436.out BK431.out (by decide)) (fun _ hk=>hk.2) (.slice Ao68 y434.length co68)) (fun _ hk=>trivial)⟩,⟨mc_ BK429⟩,⟨mp_ BK431⟩,⟨mb_ HB⟩⟩
  ·rw [if_neg c7] at H;have c7b0:=cf_ c7;clear c7;simp only [Option.some.injEq,Prod.mk.injEq] at H;obtain ⟨rfl,rfl⟩:=H;have nNB431_429:=NB431_429.out;have nNB429_431:=NB429_431.out;replace hz431:=cz2 BK431;obtain ⟨Ao72,co72,eo72⟩:=Kd.S_slice HO_432000.out;subst eo72;replace hz429:=cz2 BK429;obtain ⟨Ao74,co74,eo74⟩:=Kd.S_slice HO_432001.out;subst eo74;go_wp2;refine bodyPost_ret (results_cell_row rfl _ _ gb429 32 #[.slice Ao72 x432000_1.length co72,.slice Ao74 x432001_1.length co74] (0,0) _ rfl (mp_ BK429) Tryz.underlying32 rfl (by kernel_rfl)) rfl ?_;exact ⟨_,_,me_,by (with_reducible repeat (first|apply Kd.zr_|apply Kd.y5_|apply Kd.yt_));exact Kd.xs_ (Kd.xx_ (p:=⟨gb429,1,none⟩) (Kd.xx_ (p:=⟨gb429,0,none⟩) (Kd.wp_ HO_432000.out BK429.out (by decide)) (fun _ hk=>hk.2) (.slice Ao72 x432000_1.length co72)) (fun _ hk=>hk.2) (.slice Ao74 x432001_1.length co74)) (fun _ hk=>trivial),by (with_reducible repeat (first|apply Kd.zr_|apply Kd.y5_|apply Kd.yt_));exact Kd.xs_ (Kd.xx_ (p:=⟨gb429,1,none⟩) (Kd.xx_ (p:=⟨gb429,0,none⟩) (Kd.wp_ HO_432001.out BK429.out (by decide)) (fun _ hk=>hk.2) (.slice Ao72 x432000_1.length co72)) (fun _ hk=>hk.2) (.slice Ao74 x432001_1.length co74)) (fun _ hk=>trivial),mb_ HB⟩
 ·replace c3:=Bool.eq_false_iff.mpr c3;subst c3;rw [if_neg (show ¬(false=true) by decide)] at H;simp only [Option.some.injEq,Prod.mk.injEq] at H;obtain ⟨rfl,rfl⟩:=H;go_enter Tryz.func21,Tryz.ntmps21;go_wp2_with (first|((with_reducible refine zl_ (N:=2) rfl ?_);refine bh_ 2 #[.slice none 0 0,.slice none 0 0] 32 HB ?_;intro gb429 hg wx BK429 GE429 hb;replace HB:=ms_ HB hb;clear hb hg)|((with_reducible refine zg_ (f:=37) rfl ?_);refine xf_ (some 13) rfl rfl Tryz.func37 (by kernel_rfl) rfl #[.slice A0 l0.length c0] rfl mw_ ?_;(with_reducible refine (xr_.calls k _ _ l0 false _ ?side1 HC0.out A2.out).mono ?_);(case side1=>exact mt_ HR0 HB);rintro e wx ⟨rfl,hb⟩;refine ⟨_,rfl,?_⟩;replace BK429:=mk_ BK429 hb;replace HB:=ms_ HB hb;(try clear hb);replace hz429:=cz2 BK429));refine bodyPost_ret (results_cell_row rfl _ _ gb429 32 #[.slice none 0 0,.slice none 0 0] (0,0) _ rfl (mp_ BK429) Tryz.underlying32 rfl (by kernel_rfl)) rfl ?_;exact ⟨_,_,me_,by first|exact Kd.S_nil _ _ _ _ _|exact Kd.N_nil _ _ _ _ _|exact Kd.V_nil _ _ _ _ _|exact Kd.Q_nil _ _ _ _ _|exact Kd.R_nil _ _ _ _ _,by first|exact Kd.S_nil _ _ _ _ _|exact Kd.N_nil _ _ _ _ _|exact Kd.V_nil _ _ _ _ _|exact Kd.Q_nil _ _ _ _ _|exact Kd.R_nil _ _ _ _ _,mb_ HB⟩
end Go.Proofs.YtahambloheoebaaGreatDoor.P
namespace Go.Proofs.YtahambloheoebaaGreatDoor.P
open Go.Proofs.YtahambloheoebaaGreatDoorX
open Go.RowKit Go.Proofs.YtahambloheoebaaGreatDoorW.PrintWords Go.Proofs.YtahambloheoebaaGreatDoorW.PrintLast Go.Proofs.YtahambloheoebaaGreatDoorW.PrintMore
attribute [local go_sem] ww_ wx_ max_two min_two wc_ wb_ wu_ wv_
def laws_eqAlphaTest.f (a0_0:Int) (a0_1:Int) (a0_2:Int) (a0_3:Int) (a0_4:Int) (a0_5:ByteArray) (a1_0:Int) (a1_1:Int) (a1_2:Int) (a1_3:Int) (a1_4:Int) (a1_5:ByteArray):Option (Bool):=if a0_0=a1_0 then (if a0_1=a1_1 then (if a0_2=a1_2 then ((laws_eqValue.f a0_3 a0_4 a0_5 a1_3 a1_4 a1_5).bind fun t458=>(if t458=true then (some true) else (some false))) else (some false)) else (some false)) else (some false)
set_option maxHeartbeats 8000000 in
set_option maxRecDepth 100000 in
theorem laws_eqAlphaTest.calls (a0_0:Int) (a0_1:Int) (a0_2:Int) (a0_3:Int) (a0_4:Int) (a0_5:ByteArray) (a1_0:Int) (a1_1:Int) (a1_2:Int) (a1_3:Int) (a1_4:Int) (a1_5:ByteArray) (r:Bool) (w:World) (h:laws_eqAlphaTest.f a0_0 a0_1 a0_2 a0_3 a0_4 a0_5 a1_0 a1_1 a1_2 a1_3 a1_4 a1_5=some r) (hT_:r=true:=by first|rfl|assumption):
  Calls Tryz.prog 174 #[.agg #[.int .i64 a0_0,.int .i64 a0_1,.int .i64 a0_2,.int .i64 a0_3,.int .i64 a0_4,.string a0_5],.agg #[.int .i64 a1_0,.int .i64 a1_1,.int .i64 a1_2,.int .i64 a1_3,.int .i64 a1_4,.string a1_5]] w fun e w'=>e=.returned (.bool r)∧Below w.heap.size w w':=by
 subst hT_;have hu82:=Tryz.underlying82;have hu80:=Tryz.underlying80;have HB:=a_ (Below.refl w.heap.size w);have H:=h;unfold laws_eqAlphaTest.f at H
 clear h;by_cases c3:a0_0=a1_0
 case neg=>
  rw [if_neg c3] at H;obtain ⟨c3b0,c3b1⟩:=bn_ c3;exact absurd (Option.some.inj H) (by decide)
 rw [if_pos c3] at H;obtain ⟨c3b0,c3b1⟩:=bq_ c3;clear c3;by_cases c4:a0_1=a1_1
 case neg=>
  rw [if_neg c4] at H;obtain ⟨c4b0,c4b1⟩:=bn_ c4;exact absurd (Option.some.inj H) (by decide)
 rw [if_pos c4] at H;obtain ⟨c4b0,c4b1⟩:=bq_ c4;clear c4;by_cases c5:a0_2=a1_2
 case neg=>
  rw [if_neg c5] at H;obtain ⟨c5b0,c5b1⟩:=bn_ c5;exact absurd (Option.some.inj H) (by decide)
 rw [if_pos c5] at H;obtain ⟨c5b0,c5b1⟩:=bq_ c5;clear c5;obtain ⟨t458,A6,H⟩:=ob_ H;by_cases c7:t458=true
 ·subst c7;rw [if_pos rfl] at H;clear H;go_enter Tryz.func174,Tryz.ntmps174;go_wp2_with (first|((with_reducible refine zl_ (N:=2) rfl ?_);refine bh_ 2 #[.int .i64 a0_0,.int .i64 a0_1,.int .i64 a0_2,.int .i64 a0_3,.int .i64 a0_4,.string a0_5] 82 HB ?_;intro gb456 hg wx BK456 GE456 hb;replace HB:=ms_ HB hb;clear hb hg)|((with_reducible refine zl_ (N:=3) rfl ?_);refine bh_ 3 #[.int .i64 a1_0,.int .i64 a1_1,.int .i64 a1_2,.int .i64 a1_3,.int .i64 a1_4,.string a1_5] 82 HB ?_;intro gb457 hg wx BK457 GE457 hb;obtain ⟨NB456_457,NB457_456⟩:=mn_ BK456 hg;replace BK456:=mk_ BK456 hb;replace HB:=ms_ HB hb;clear hb hg;have nNB456_457:=NB456_457.out;have nNB457_456:=NB457_456.out;replace hz456:=cz6 BK456;replace hz457:=cz6 BK457)|((with_reducible refine zg_ (f:=173) rfl ?_);refine xf_ (some 24) rfl rfl Tryz.func173 (by kernel_rfl) rfl #[.agg #[.int .i64 a0_3,.int .i64 a0_4,.string a0_5],.agg #[.int .i64 a1_3,.int .i64 a1_4,.string a1_5]] rfl mw_ ?_;(with_reducible refine (laws_eqValue.calls a0_3 a0_4 a0_5 a1_3 a1_4 a1_5 true _ A6.out).mono ?_);rintro e wx ⟨rfl,hb⟩;refine ⟨_,rfl,?_⟩;replace BK456:=mk_ BK456 hb;replace BK457:=mk_ BK457 hb;replace HB:=ms_ HB hb;(try clear hb)));go_ret;exact ⟨me_,mb_ HB⟩
 ·replace c7:=Bool.eq_false_iff.mpr c7;subst c7;rw [if_neg (show ¬(false=true) by decide)] at H;exact absurd (Option.some.inj H) (by decide)
def zp_.l0:Nat→List (S82)→List (S82)→Int→Option (Bool)
 | 0,_,_,_=>none
 | k+1,x0,x1,x5=>if x5<(x0.length:Int) then (if 0≤x5 then (if x5<(x1.length:Int) then ((laws_eqAlphaTest.f ((zb_ x0 x5).f0) ((zb_ x0 x5).f1) ((zb_ x0 x5).f2) ((zb_ x0 x5).f3.f0) ((zb_ x0 x5).f3.f1) ((zb_ x0 x5).f3.f2) ((zb_ x1 x5).f0) ((zb_ x1 x5).f1) ((zb_ x1 x5).f2) ((zb_ x1 x5).f3.f0) ((zb_ x1 x5).f3.f1) ((zb_ x1 x5).f3.f2)).bind fun t461=>(if t461=true then (zp_.l0 k x0 x1 (wrap64 (x5+1))) else (some false))) else (none)) else (none)) else (some true)
def zp_.f (k:Nat) (l0:List (S82)) (l1:List (S82)):Option (Bool):=if (l0.length:Int)=(l1.length:Int) then (zp_.l0 k l0 l1 0) else (some false)
theorem zp_.y6_:∀k,(∀y0 y1 y2,LeO (zp_.l0 k y0 y1 y2) (zp_.l0 (k+1) y0 y1 y2))
 | 0=>fun _ _ _ r h=>by simp [zp_.l0] at h
 | k+1=>by
  have ih0:=zp_.y6_ k
  ·intro y0 y1 y2;unfold zp_.l0
   repeat' with_reducible first|apply ih0|apply LeO.refl|apply LeO.none|refine LeO.ite ?_ ?_|refine LeO.bind ?_ (fun _=>?_)
theorem zp_.mono:∀a0 a1 k,LeO (zp_.f k a0 a1) (zp_.f (k+1) a0 a1):=by
 intro a0 a1 k;have ih0:=zp_.y6_ k;unfold zp_.f
 repeat' with_reducible first|apply ih0|apply LeO.refl|apply LeO.none|refine LeO.ite ?_ ?_|refine LeO.bind ?_ (fun _=>?_)
def zp_.T6:Bool×List (List Nat×List Nat):=(true,[([],[]),([],[]),([0,1],[0,1]),([2],[2]),([],[]),([],[]),([4,5],[4,5]),([6],[6]),([3,7],[3,7]),([8],[8])])
def zp_.B6:List Nat:=[0,0,3,7,0,0,48,112,255,511]
theorem zp_.tab6:rtab .any (opsOf Tryz.f143 6)=zp_.T6:=by kernel_rfl
theorem zp_.bits6:waitsOk zp_.T6.2 zp_.B6=true:=by kernel_rfl
abbrev b6b9_0:Array Bool:=#[f_,f_,f_,f_,f_,f_,f_,f_,f_,f_]
abbrev b6b9_1:Array Bool:=#[t_,f_,f_,f_,f_,f_,f_,f_,f_,f_]
abbrev b6b9_2:Array Bool:=#[t_,t_,f_,f_,f_,f_,f_,f_,f_,f_]
abbrev b6b9_3:Array Bool:=#[t_,t_,t_,f_,f_,f_,f_,f_,f_,f_]
abbrev b6b9_4:Array Bool:=#[t_,t_,t_,f_,t_,f_,f_,f_,f_,f_]
abbrev b6b9_5:Array Bool:=#[t_,t_,t_,f_,t_,t_,f_,f_,f_,f_]
abbrev b6b9_6:Array Bool:=#[t_,t_,t_,f_,t_,t_,t_,f_,f_,f_]
abbrev b6b9_7:Array Bool:=#[t_,t_,t_,t_,t_,t_,t_,f_,f_,f_]
abbrev b6b9_8:Array Bool:=#[t_,t_,t_,t_,t_,t_,t_,t_,f_,f_]
abbrev b6b9_9:Array Bool:=#[t_,t_,t_,t_,t_,t_,t_,t_,t_,f_]
abbrev b6b9_10:Array Bool:=#[t_,t_,t_,t_,t_,t_,t_,t_,t_,t_]
set_option maxHeartbeats 8000000 in
set_option maxRecDepth 100000 in
theorem zp_.calls (k:Nat) (A0:Option Addr) (c0:Nat) (l0:List (S82)) (A1:Option Addr) (c1:Nat) (l1:List (S82)) (r:Bool) (w:World) (hr0:Kd.C k82 w A0 l0.length l0) (hc0:l0.length≤c0) (hr1:Kd.C k82 w A1 l1.length l1) (hc1:l1.length≤c1) (h:zp_.f k l0 l1=some r) (hT_:r=true:=by first|rfl|assumption):
  Calls Tryz.prog 143 #[.slice A0 l0.length c0,.slice A1 l1.length c1] w fun e w'=>e=.returned (.bool r)∧Below w.heap.size w w':=by
 subst hT_;have hu82:=Tryz.underlying82;have HR0:=a_ hr0;have HC0:=a_ hc0;clear hr0 hc0;have HR1:=a_ hr1;have HC1:=a_ hc1;clear hr1 hc1;have HB:=a_ (Below.refl w.heap.size w);have H:=h;unfold zp_.f at H
 clear h;by_cases c3:(l0.length:Int)=(l1.length:Int)
 ·rw [if_pos c3] at H;obtain ⟨c3b0,c3b1⟩:=bq_ c3;have c3b2:(l0.length==l1.length)=true:=by first|simpa using c3|(simp at c3 ⊢;omega)
  clear c3;have H':=a_ H;clear H;go_enter Tryz.func143,Tryz.ntmps143;go_wp2;go_loopg [5] k (fun kq v5 w'=>∃(x5_1:Int),v5=.int .i64 x5_1∧z0_ (zp_.l0 kq l0 l1 x5_1=some true)∧z0_ (kq≤k)∧z0_ (Below w.heap.size w w'))
  case atStart=>exact ⟨(0),mq_,H',⟨Nat.le_refl _⟩,⟨mb_ HB⟩⟩
  clear H';(try clear c3b0);(try clear c3b1);(try clear c3b2);obtain ⟨x5_1,rfl,HA,HK1,HB⟩:=hrel;obtain _|k1:=gk
  ·exact absurd HA.out (by simp [zp_.l0])
  have H:=HA.out;clear HA;simp only [zp_.l0] at H;by_cases c4:x5_1<(l0.length:Int)
  ·rw [if_pos c4] at H;have c4b0:=ct_ c4;clear c4;by_cases c5:0≤x5_1
   case neg=>
    rw [if_neg c5] at H;cases H
   rw [if_pos c5] at H;have c5b0:=ct_ c5;clear c5;by_cases c6:x5_1<(l1.length:Int)
   case neg=>
    rw [if_neg c6] at H;cases H
   rw [if_pos c6] at H;have c6b0:=ct_ c6;clear c6;obtain ⟨t461,A7,H⟩:=ob_ H;by_cases c8:t461=true
   ·subst c8;rw [if_pos rfl] at H;have H':=a_ H;clear H;try go_wp2
    replace HB:=a_ (x2_ HB.out);have p459:0≤(x5_1:Int):=md_
    have q459:x5_1<(l0.length:Int):=md_
    obtain ⟨ad459,e459,hx459_0,hx459_1,hx459_2,hx459_3,hx459_4,hx459_5⟩:=at_T82 HR0.out x5_1 p459 q459;have hw459_5:=hx459_5;have hw459_4:=hx459_4;have hw459_3:=hx459_3;have hw459_2:=hx459_2;have hw459_1:=hx459_1;have hw459_0:=hx459_0;cases e459;replace hx459_0:=mx_ HB hx459_0;replace hx459_1:=mx_ HB hx459_1;replace hx459_2:=mx_ HB hx459_2;replace hx459_3:=mx_ HB hx459_3;replace hx459_4:=mx_ HB hx459_4;replace hx459_5:=mx_ HB hx459_5;replace p459:=eq_true p459;replace q459:=eq_true q459;have p460:0≤(x5_1:Int):=md_
    have q460:x5_1<(l1.length:Int):=md_
    obtain ⟨ad460,e460,hx460_0,hx460_1,hx460_2,hx460_3,hx460_4,hx460_5⟩:=at_T82 HR1.out x5_1 p460 q460;have hw460_5:=hx460_5;have hw460_4:=hx460_4;have hw460_3:=hx460_3;have hw460_2:=hx460_2;have hw460_1:=hx460_1;have hw460_0:=hx460_0;cases e460;replace hx460_0:=mx_ HB hx460_0;replace hx460_1:=mx_ HB hx460_1;replace hx460_2:=mx_ HB hx460_2;replace hx460_3:=mx_ HB hx460_3;replace hx460_4:=mx_ HB hx460_4;replace hx460_5:=mx_ HB hx460_5;replace p460:=eq_true p460;replace q460:=eq_true q460;refine start_ (n:=10) (S:=fun w'=>w'.cell? (ad459.add ((x5_1).toNat*6))=some (.int .i64 ((zb_ l0 x5_1).f0))∧w'.cell? ⟨(ad459.add ((x5_1).toNat*6)).block,(ad459.add ((x5_1).toNat*6)).off+1,none⟩=some (.int .i64 ((zb_ l0 x5_1).f1))∧w'.cell? ⟨(ad459.add ((x5_1).toNat*6)).block,(ad459.add ((x5_1).toNat*6)).off+2,none⟩=some (.int .i64 ((zb_ l0 x5_1).f2))∧w'.cell? ⟨(ad459.add ((x5_1).toNat*6)).block,(ad459.add ((x5_1).toNat*6)).off+3,none⟩=some (.int .i64 ((zb_ l0 x5_1).f3.f0))∧w'.cell? ⟨(ad459.add ((x5_1).toNat*6)).block,(ad459.add ((x5_1).toNat*6)).off+4,none⟩=some (.int .i64 ((zb_ l0 x5_1).f3.f1))∧w'.cell? ⟨(ad459.add ((x5_1).toNat*6)).block,(ad459.add ((x5_1).toNat*6)).off+5,none⟩=some (.string ((zb_ l0 x5_1).f3.f2))∧w'.cell? (ad460.add ((x5_1).toNat*6))=some (.int .i64 ((zb_ l1 x5_1).f0))∧w'.cell? ⟨(ad460.add ((x5_1).toNat*6)).block,(ad460.add ((x5_1).toNat*6)).off+1,none⟩=some (.int .i64 ((zb_ l1 x5_1).f1))∧w'.cell? ⟨(ad460.add ((x5_1).toNat*6)).block,(ad460.add ((x5_1).toNat*6)).off+2,none⟩=some (.int .i64 ((zb_ l1 x5_1).f2))∧w'.cell? ⟨(ad460.add ((x5_1).toNat*6)).block,(ad460.add ((x5_1).toNat*6)).off+3,none⟩=some (.int .i64 ((zb_ l1 x5_1).f3.f0))∧w'.cell? ⟨(ad460.add ((x5_1).toNat*6)).block,(ad460.add ((x5_1).toNat*6)).off+4,none⟩=some (.int .i64 ((zb_ l1 x5_1).f3.f1))∧w'.cell? ⟨(ad460.add ((x5_1).toNat*6)).block,(ad460.add ((x5_1).toNat*6)).off+5,none⟩=some (.string ((zb_ l1 x5_1).f3.f2))) (ds:=[]) b6b9_0 (by kernel_rfl) rfl rfl ⟨(mx_ HB hw459_0),(mx_ HB hw459_1),(mx_ HB hw459_2),(mx_ HB hw459_3),(mx_ HB hw459_4),(mx_ HB hw459_5),(mx_ HB hw460_0),(mx_ HB hw460_1),(mx_ HB hw460_2),(mx_ HB hw460_3),(mx_ HB hw460_4),(mx_ HB hw460_5)⟩ (fun hHeld=>?_);refine with_tabW zp_.tab6 zp_.bits6 (fun HT_ HW_=>?_);generalize wr.drew=w9 at HB hx459_0 hx459_1 hx459_2 hx459_3 hx459_4 hx459_5 hx460_0 hx460_1 hx460_2 hx460_3 hx460_4 hx460_5 hHeld ⊢;refine pu_ 0 17 b6b9_1 (ze_ HT_.out (by kernel_rfl)) ?_;refine pu_ 1 18 b6b9_2 (ze_ HT_.out (by kernel_rfl)) ?_;refine pu_ 2 19 b6b9_3 (ze_ HT_.out (by kernel_rfl)) ?_
    refine pu_ 4 21 b6b9_4 (ze_ HT_.out (by kernel_rfl)) ?_;refine pu_ 5 22 b6b9_5 (ze_ HT_.out (by kernel_rfl)) ?_;refine pu_ 6 23 b6b9_6 (ze_ HT_.out (by kernel_rfl)) ?_;refine tk_ 3 20 b6b9_7 (w6_ HT_.out HW_.out (by kernel_rfl)) hHeld ?_;refine tk_ 7 24 b6b9_8 (w6_ HT_.out HW_.out (by kernel_rfl)) hHeld ?_;refine one_ (i:=8) (N:=some 25) b6b9_9 rfl rfl (one_of HT_.out (by kernel_rfl)) (by decide) (fun K hK=>?_);refine goes_ Tryz.func174 (by kernel_rfl) rfl #[.agg #[.int .i64 ((zb_ l0 x5_1).f0),.int .i64 ((zb_ l0 x5_1).f1),.int .i64 ((zb_ l0 x5_1).f2),.int .i64 ((zb_ l0 x5_1).f3.f0),.int .i64 ((zb_ l0 x5_1).f3.f1),.string ((zb_ l0 x5_1).f3.f2)],.agg #[.int .i64 ((zb_ l1 x5_1).f0),.int .i64 ((zb_ l1 x5_1).f1),.int .i64 ((zb_ l1 x5_1).f2),.int .i64 ((zb_ l1 x5_1).f3.f0),.int .i64 ((zb_ l1 x5_1).f3.f1),.string ((zb_ l1 x5_1).f3.f2)]] (by rfl) rfl rfl mw_ ?_;with_reducible refine (laws_eqAlphaTest.calls ((zb_ l0 x5_1).f0) ((zb_ l0 x5_1).f1) ((zb_ l0 x5_1).f2) ((zb_ l0 x5_1).f3.f0) ((zb_ l0 x5_1).f3.f1) ((zb_ l0 x5_1).f3.f2) ((zb_ l1 x5_1).f0) ((zb_ l1 x5_1).f1) ((zb_ l1 x5_1).f2) ((zb_ l1 x5_1).f3.f0) ((zb_ l1 x5_1).f3.f1) ((zb_ l1 x5_1).f3.f2) true _ A7.out).mono ?_
    rintro e w10 ⟨rfl,hb⟩;refine ⟨_,rfl,?_⟩;replace HB:=ms_ HB hb;(try clear hb);(try clear hb2);(try clear hk);(try clear hi);refine hK.out _ _ ⟨(mx_ HB hw459_0),(mx_ HB hw459_1),(mx_ HB hw459_2),(mx_ HB hw459_3),(mx_ HB hw459_4),(mx_ HB hw459_5),(mx_ HB hw460_0),(mx_ HB hw460_1),(mx_ HB hw460_2),(mx_ HB hw460_3),(mx_ HB hw460_4),(mx_ HB hw460_5)⟩ (fun hHeld=>?_);clear hK K;refine nm_ 25 ?_;refine pu_ 9 26 b6b9_10 (ze_ HT_.out (by kernel_rfl)) ?_;refine done_ (done_of HT_.out (by kernel_rfl)) ?_;try go_wp2
    go_roundg k1
    case measure=>
     have:=HK1.out
     omega
    case rel=>exact ⟨(wrap64 (x5_1+1)),mq_,H',⟨by have:=HK1.out;omega⟩,⟨mb_ HB⟩⟩
   ·replace c8:=Bool.eq_false_iff.mpr c8;subst c8;rw [if_neg (show ¬(false=true) by decide)] at H;exact absurd (Option.some.inj H) (by decide)
  ·rw [if_neg c4] at H;have c4b0:=cf_ c4;clear c4;clear H;go_wp2;go_ret;exact ⟨me_,mb_ HB⟩
 ·rw [if_neg c3] at H;obtain ⟨c3b0,c3b1⟩:=bn_ c3;have c3b2:(l0.length==l1.length)=false:=by first|simpa using c3|(simp at c3 ⊢;omega)
  exact absurd (Option.some.inj H) (by decide)
def wr_.f (k:Nat) (a0_0:ByteArray) (a0_1:Int) (l0_2:List (S82)) (a1_0:ByteArray) (a1_1:Int) (l1_2:List (S82)):Option (Bool):=if a0_0.toList=a1_0.toList then (if a0_1=a1_1 then ((zp_.f k l0_2 l1_2).bind fun t464=>(if t464=true then (some true) else (some false))) else (some false)) else (some false)
theorem wr_.mono:∀a0 a1 a2 a3 a4 a5 k,LeO (wr_.f k a0 a1 a2 a3 a4 a5) (wr_.f (k+1) a0 a1 a2 a3 a4 a5):=by
 intro a0 a1 a2 a3 a4 a5 k;unfold wr_.f
 repeat' with_reducible first|apply zp_.mono|apply LeO.refl|apply LeO.none|refine LeO.ite ?_ ?_|refine LeO.bind ?_ (fun _=>?_)
set_option maxHeartbeats 8000000 in
set_option maxRecDepth 100000 in
theorem wr_.calls (k:Nat) (a0_0:ByteArray) (a0_1:Int) (A0_2:Option Addr) (c0_2:Nat) (l0_2:List (S82)) (a1_0:ByteArray) (a1_1:Int) (A1_2:Option Addr) (c1_2:Nat) (l1_2:List (S82)) (r:Bool) (w:World) (hr0_2:Kd.C k82 w A0_2 l0_2.length l0_2) (hc0_2:l0_2.length≤c0_2) (hr1_2:Kd.C k82 w A1_2 l1_2.length l1_2) (hc1_2:l1_2.length≤c1_2) (h:wr_.f k a0_0 a0_1 l0_2 a1_0 a1_1 l1_2=some r) (hT_:r=true:=by first|rfl|assumption):
  Calls Tryz.prog 96 #[.agg #[.string a0_0,.int .i64 a0_1,.slice A0_2 l0_2.length c0_2],.agg #[.string a1_0,.int .i64 a1_1,.slice A1_2 l1_2.length c1_2]] w fun e w'=>e=.returned (.bool r)∧Below w.heap.size w w':=by
 subst hT_;have hu50:=Tryz.underlying50;have HR0_2:=a_ hr0_2;have HC0_2:=a_ hc0_2;clear hr0_2 hc0_2;have HR1_2:=a_ hr1_2;have HC1_2:=a_ hc1_2;clear hr1_2 hc1_2;have HB:=a_ (Below.refl w.heap.size w);have H:=h;unfold wr_.f at H
 clear h;by_cases c3:a0_0.toList=a1_0.toList
 case neg=>
  rw [if_neg c3] at H;obtain ⟨c3b0,c3b1⟩:=bn_ c3;exact absurd (Option.some.inj H) (by decide)
 rw [if_pos c3] at H;obtain ⟨c3b0,c3b1⟩:=bq_ c3;clear c3;by_cases c4:a0_1=a1_1
 case neg=>
  rw [if_neg c4] at H;obtain ⟨c4b0,c4b1⟩:=bn_ c4;exact absurd (Option.some.inj H) (by decide)
 rw [if_pos c4] at H;obtain ⟨c4b0,c4b1⟩:=bq_ c4;clear c4;obtain ⟨t464,A5,H⟩:=ob_ H;by_cases c6:t464=true
 ·subst c6;rw [if_pos rfl] at H;clear H;go_enter Tryz.func96,Tryz.ntmps96;go_wp2_with (first|((with_reducible refine zl_ (N:=2) rfl ?_);refine bh_ 2 #[.string a0_0,.int .i64 a0_1,.slice A0_2 l0_2.length c0_2] 50 HB ?_;intro gb462 hg wx BK462 GE462 hb;replace HB:=ms_ HB hb;clear hb hg)|((with_reducible refine zl_ (N:=3) rfl ?_);refine bh_ 3 #[.string a1_0,.int .i64 a1_1,.slice A1_2 l1_2.length c1_2] 50 HB ?_;intro gb463 hg wx BK463 GE463 hb;obtain ⟨NB462_463,NB463_462⟩:=mn_ BK462 hg;replace BK462:=mk_ BK462 hb;replace HB:=ms_ HB hb;clear hb hg;have nNB462_463:=NB462_463.out;have nNB463_462:=NB463_462.out;replace hz462:=cz3 BK462;replace hz463:=cz3 BK463)|((with_reducible refine zg_ (f:=143) rfl ?_);refine xf_ (some 19) rfl rfl Tryz.func143 (by kernel_rfl) rfl #[.slice A0_2 l0_2.length c0_2,.slice A1_2 l1_2.length c1_2] rfl mw_ ?_;(with_reducible refine (zp_.calls k _ _ l0_2 _ _ l1_2 true _ ?side1 HC0_2.out ?side3 HC1_2.out A5.out).mono ?_);(case side1=>exact mt_ HR0_2 HB);(case side3=>exact mt_ HR1_2 HB);rintro e wx ⟨rfl,hb⟩;refine ⟨_,rfl,?_⟩;replace BK462:=mk_ BK462 hb;replace BK463:=mk_ BK463 hb;replace HB:=ms_ HB hb;(try clear hb)));go_ret;exact ⟨me_,mb_ HB⟩
 ·replace c6:=Bool.eq_false_iff.mpr c6;subst c6;rw [if_neg (show ¬(false=true) by decide)] at H;exact absurd (Option.some.inj H) (by decide)
def y8_.l0:Nat→List (S50)→List (S50)→Int→Option (Bool)
 | 0,_,_,_=>none
 | k+1,x0,x1,x5=>if x5<(x0.length:Int) then (if 0≤x5 then (if x5<(x1.length:Int) then ((wr_.f k ((xg_ x0 x5).f0) ((xg_ x0 x5).f1) ((xg_ x0 x5).f2) ((xg_ x1 x5).f0) ((xg_ x1 x5).f1) ((xg_ x1 x5).f2)).bind fun t467=>(if t467=true then (y8_.l0 k x0 x1 (wrap64 (x5+1))) else (some false))) else (none)) else (none)) else (some true)
def y8_.f (k:Nat) (l0:List (S50)) (l1:List (S50)):Option (Bool):=if (l0.length:Int)=(l1.length:Int) then (y8_.l0 k l0 l1 0) else (some false)
theorem y8_.y6_:∀k,(∀y0 y1 y2,LeO (y8_.l0 k y0 y1 y2) (y8_.l0 (k+1) y0 y1 y2))
 | 0=>fun _ _ _ r h=>by simp [y8_.l0] at h
 | k+1=>by
  have ih0:=y8_.y6_ k
  ·intro y0 y1 y2;unfold y8_.l0
   repeat' with_reducible first|apply ih0|apply wr_.mono|apply LeO.refl|apply LeO.none|refine LeO.ite ?_ ?_|refine LeO.bind ?_ (fun _=>?_)
theorem y8_.mono:∀a0 a1 k,LeO (y8_.f k a0 a1) (y8_.f (k+1) a0 a1):=by
 intro a0 a1 k;have ih0:=y8_.y6_ k;unfold y8_.f
 repeat' with_reducible first|apply ih0|apply wr_.mono|apply LeO.refl|apply LeO.none|refine LeO.ite ?_ ?_|refine LeO.bind ?_ (fun _=>?_)
def y8_.T6:Bool×List (List Nat×List Nat):=(true,[([],[]),([],[]),([0,1],[0,1]),([2],[2]),([],[]),([],[]),([4,5],[4,5]),([6],[6]),([3,7],[3,7]),([8],[8])])
def y8_.B6:List Nat:=[0,0,3,7,0,0,48,112,255,511]
theorem y8_.tab6:rtab .any (opsOf Tryz.f53 6)=y8_.T6:=by kernel_rfl
theorem y8_.bits6:waitsOk y8_.T6.2 y8_.B6=true:=by kernel_rfl
set_option maxHeartbeats 8000000 in
set_option maxRecDepth 100000 in
theorem y8_.calls (k:Nat) (A0:Option Addr) (c0:Nat) (l0:List (S50)) (A1:Option Addr) (c1:Nat) (l1:List (S50)) (r:Bool) (w:World) (hr0:Kd.C k50 w A0 l0.length l0) (hc0:l0.length≤c0) (hr1:Kd.C k50 w A1 l1.length l1) (hc1:l1.length≤c1) (h:y8_.f k l0 l1=some r) (hT_:r=true:=by first|rfl|assumption):
  Calls Tryz.prog 53 #[.slice A0 l0.length c0,.slice A1 l1.length c1] w fun e w'=>e=.returned (.bool r)∧Below w.heap.size w w':=by
 subst hT_;have hu50:=Tryz.underlying50;have HR0:=a_ hr0;have HC0:=a_ hc0;clear hr0 hc0;have HR1:=a_ hr1;have HC1:=a_ hc1;clear hr1 hc1;have HB:=a_ (Below.refl w.heap.size w);have H:(if (l0.length:Int)=(l1.length:Int) then (y8_.l0 k l0 l1 0) else (some false))=some true:=h
 clear h;by_cases c3:(l0.length:Int)=(l1.length:Int)
 ·rw [if_pos c3] at H;obtain ⟨c3b0,c3b1⟩:=bq_ c3;have c3b2:(l0.length==l1.length)=true:=by first|simpa using c3|(simp at c3 ⊢;omega)
  clear c3;have H':=a_ H;clear H;go_enter Tryz.func53,Tryz.ntmps53;go_wp2;go_loopg [5] k (fun kq v5 w'=>∃(x5_1:Int),v5=.int .i64 x5_1∧z0_ (y8_.l0 kq l0 l1 x5_1=some true)∧z0_ (kq≤k)∧z0_ (Below w.heap.size w w'))
  case atStart=>exact ⟨(0),mq_,H',⟨Nat.le_refl _⟩,⟨mb_ HB⟩⟩
  clear H';(try clear c3b0);(try clear c3b1);(try clear c3b2);obtain ⟨x5_1,rfl,HA,HK1,HB⟩:=hrel;obtain _|k1:=gk
  ·exact absurd HA.out (by simp [y8_.l0])
  have H:=HA.out;clear HA;simp only [y8_.l0] at H;by_cases c4:x5_1<(l0.length:Int)
  ·rw [if_pos c4] at H;have c4b0:=ct_ c4;clear c4;by_cases c5:0≤x5_1
   case neg=>
    rw [if_neg c5] at H;cases H
   rw [if_pos c5] at H;have c5b0:=ct_ c5;clear c5;by_cases c6:x5_1<(l1.length:Int)
   case neg=>
    rw [if_neg c6] at H;cases H
   rw [if_pos c6] at H;have c6b0:=ct_ c6;clear c6;obtain ⟨t467,A7,H⟩:=ob_ H;by_cases c8:t467=true
   ·subst c8;rw [if_pos rfl] at H;have H':=a_ H;clear H;try go_wp2
    replace HB:=a_ (x2_ HB.out);have p465:0≤(x5_1:Int):=md_
    have q465:x5_1<(l0.length:Int):=md_
    obtain ⟨ad465,A465_2,c465_2,e465,hx465_0,hx465_1,hx465_2,hl465_2,hi465_2⟩:=at_T50 HR0.out x5_1 p465 q465;have hw465_2:=hx465_2;have hw465_1:=hx465_1;have hw465_0:=hx465_0;cases e465;replace hx465_0:=mx_ HB hx465_0;replace hx465_1:=mx_ HB hx465_1;replace hx465_2:=mx_ HB hx465_2;have HR465_2:=a_ hi465_2;have HC465_2:=a_ hl465_2;clear hi465_2 hl465_2;replace p465:=eq_true p465;replace q465:=eq_true q465;have p466:0≤(x5_1:Int):=md_
    have q466:x5_1<(l1.length:Int):=md_
    obtain ⟨ad466,A466_2,c466_2,e466,hx466_0,hx466_1,hx466_2,hl466_2,hi466_2⟩:=at_T50 HR1.out x5_1 p466 q466;have hw466_2:=hx466_2;have hw466_1:=hx466_1;have hw466_0:=hx466_0;cases e466;replace hx466_0:=mx_ HB hx466_0;replace hx466_1:=mx_ HB hx466_1;replace hx466_2:=mx_ HB hx466_2;have HR466_2:=a_ hi466_2;have HC466_2:=a_ hl466_2;clear hi466_2 hl466_2;replace p466:=eq_true p466;replace q466:=eq_true q466;refine start_ (n:=10) (S:=fun w'=>w'.cell? (ad465.add ((x5_1).toNat*3))=some (.string ((xg_ l0 x5_1).f0))∧w'.cell? ⟨(ad465.add ((x5_1).toNat*3)).block,(ad465.add ((x5_1).toNat*3)).off+1,none⟩=some (.int .i64 ((xg_ l0 x5_1).f1))∧w'.cell? ⟨(ad465.add ((x5_1).toNat*3)).block,(ad465.add ((x5_1).toNat*3)).off+2,none⟩=some (.slice A465_2 ((xg_ l0 x5_1).f2).length c465_2)∧w'.cell? (ad466.add ((x5_1).toNat*3))=some (.string ((xg_ l1 x5_1).f0))∧w'.cell? ⟨(ad466.add ((x5_1).toNat*3)).block,(ad466.add ((x5_1).toNat*3)).off+1,none⟩=some (.int .i64 ((xg_ l1 x5_1).f1))∧w'.cell? ⟨(ad466.add ((x5_1).toNat*3)).block,(ad466.add ((x5_1).toNat*3)).off+2,none⟩=some (.slice A466_2 ((xg_ l1 x5_1).f2).length c466_2)) (ds:=[]) b6b9_0 (by kernel_rfl) rfl rfl ⟨(mx_ HB hw465_0),(mx_ HB hw465_1),(mx_ HB hw465_2),(mx_ HB hw466_0),(mx_ HB hw466_1),(mx_ HB hw466_2)⟩ (fun hHeld=>?_);refine with_tabW y8_.tab6 y8_.bits6 (fun HT_ HW_=>?_);generalize wr.drew=w9 at HB HR465_2 HR466_2 hx465_0 hx465_1 hx465_2 hx466_0 hx466_1 hx466_2 hHeld ⊢;refine pu_ 0 17 b6b9_1 (ze_ HT_.out (by kernel_rfl)) ?_;refine pu_ 1 18 b6b9_2 (ze_ HT_.out (by kernel_rfl)) ?_;refine pu_ 2 19 b6b9_3 (ze_ HT_.out (by kernel_rfl)) ?_;refine pu_ 4 21 b6b9_4 (ze_ HT_.out (by kernel_rfl)) ?_;refine pu_ 5 22 b6b9_5 (ze_ HT_.out (by kernel_rfl)) ?_;refine pu_ 6 23 b6b9_6 (ze_ HT_.out (by kernel_rfl)) ?_;refine tk_ 3 20 b6b9_7 (w6_ HT_.out HW_.out (by kernel_rfl)) hHeld ?_;refine tk_ 7 24 b6b9_8 (w6_ HT_.out HW_.out (by kernel_rfl)) hHeld ?_;refine one_ (i:=8) (N:=some 25) b6b9_9 rfl rfl (one_of HT_.out (by kernel_rfl)) (by decide) (fun K hK=>?_);refine goes_ Tryz.func96 (by kernel_rfl) rfl #[.agg #[.string ((xg_ l0 x5_1).f0),.int .i64 ((xg_ l0 x5_1).f1),.slice A465_2 ((xg_ l0 x5_1).f2).length c465_2],.agg #[.string ((xg_ l1 x5_1).f0),.int .i64 ((xg_ l1 x5_1).f1),.slice A466_2 ((xg_ l1 x5_1).f2).length c466_2]] (by rfl) rfl rfl mw_ ?_
    with_reducible refine (wr_.calls k1 ((xg_ l0 x5_1).f0) ((xg_ l0 x5_1).f1) _ _ ((xg_ l0 x5_1).f2) ((xg_ l1 x5_1).f0) ((xg_ l1 x5_1).f1) _ _ ((xg_ l1 x5_1).f2) true _ ?side1 ?side2 ?side3 ?side4 A7.out).mono ?_
    (case side1=>exact mt_ HR465_2 HB)
    (case side2=>exact HC465_2.out)
    (case side3=>exact mt_ HR466_2 HB)
    (case side4=>exact HC466_2.out)
    rintro e w10 ⟨rfl,hb⟩;refine ⟨_,rfl,?_⟩;replace HB:=ms_ HB hb;(try clear hb);(try clear hb2);(try clear hk);(try clear hi);refine hK.out _ _ ⟨(mx_ HB hw465_0),(mx_ HB hw465_1),(mx_ HB hw465_2),(mx_ HB hw466_0),(mx_ HB hw466_1),(mx_ HB hw466_2)⟩ (fun hHeld=>?_);clear hK K;refine nm_ 25 ?_;refine pu_ 9 26 b6b9_10 (ze_ HT_.out (by kernel_rfl)) ?_;refine done_ (done_of HT_.out (by kernel_rfl)) ?_;try go_wp2
    go_roundg k1
    case measure=>
     have:=HK1.out
     omega
    case rel=>exact ⟨(wrap64 (x5_1+1)),mq_,H',⟨by have:=HK1.out;omega⟩,⟨mb_ HB⟩⟩
   ·replace c8:=Bool.eq_false_iff.mpr c8;subst c8;rw [if_neg (show ¬(false=true) by decide)] at H;exact absurd (Option.some.inj H) (by decide)
  ·rw [if_neg c4] at H;have c4b0:=cf_ c4;clear c4;clear H;go_wp2;go_ret;exact ⟨me_,mb_ HB⟩
 ·rw [if_neg c3] at H;obtain ⟨c3b0,c3b1⟩:=bn_ c3;have c3b2:(l0.length==l1.length)=false:=by first|simpa using c3|(simp at c3 ⊢;omega)
  exact absurd (Option.some.inj H) (by decide)
def x6_.l0:Nat→List (List Int)→List (List Int)→Int→Option (Bool)
 | 0,_,_,_=>none
 | k+1,x0,x1,x5=>if x5<(x0.length:Int) then (if 0≤x5 then (if x5<(x1.length:Int) then ((yi_.f k (rd_L9 x0 x5) (rd_L9 x1 x5)).bind fun t470=>(if t470=true then (x6_.l0 k x0 x1 (wrap64 (x5+1))) else (some false))) else (none)) else (none)) else (some true)
def x6_.f (k:Nat) (l0:List (List Int)) (l1:List (List Int)):Option (Bool):=if (l0.length:Int)=(l1.length:Int) then (x6_.l0 k l0 l1 0) else (some false)
theorem x6_.y6_:∀k,(∀y0 y1 y2,LeO (x6_.l0 k y0 y1 y2) (x6_.l0 (k+1) y0 y1 y2))
 | 0=>fun _ _ _ r h=>by simp [x6_.l0] at h
 | k+1=>by
  have ih0:=x6_.y6_ k
  ·intro y0 y1 y2;unfold x6_.l0
   repeat' with_reducible first|apply ih0|apply yi_.mono|apply LeO.refl|apply LeO.none|refine LeO.ite ?_ ?_|refine LeO.bind ?_ (fun _=>?_)
theorem x6_.mono:∀a0 a1 k,LeO (x6_.f k a0 a1) (x6_.f (k+1) a0 a1):=by
 intro a0 a1 k;have ih0:=x6_.y6_ k;unfold x6_.f
 repeat' with_reducible first|apply ih0|apply yi_.mono|apply LeO.refl|apply LeO.none|refine LeO.ite ?_ ?_|refine LeO.bind ?_ (fun _=>?_)
set_option maxHeartbeats 8000000 in
set_option maxRecDepth 100000 in
theorem x6_.calls (k:Nat) (A0:Option Addr) (c0:Nat) (l0:List (List Int)) (A1:Option Addr) (c1:Nat) (l1:List (List Int)) (r:Bool) (w:World) (hr0:Kd.C (Kd.slice 3 (Kd.int .i64)) w A0 l0.length l0) (hc0:l0.length≤c0) (hr1:Kd.C (Kd.slice 3 (Kd.int .i64)) w A1 l1.length l1) (hc1:l1.length≤c1) (h:x6_.f k l0 l1=some r) (hT_:r=true:=by first|rfl|assumption):
  Calls Tryz.prog 54 #[.slice A0 l0.length c0,.slice A1 l1.length c1] w fun e w'=>e=.returned (.bool r)∧x4_ w w':=by
 subst hT_;have HR0:=a_ hr0;have HC0:=a_ hc0;clear hr0 hc0;have HR1:=a_ hr1;have HC1:=a_ hc1;clear hr1 hc1;have H:(if (l0.length:Int)=(l1.length:Int) then (x6_.l0 k l0 l1 0) else (some false))=some true:=h
 clear h;by_cases c3:(l0.length:Int)=(l1.length:Int)
 ·rw [if_pos c3] at H;obtain ⟨c3b0,c3b1⟩:=bq_ c3;have c3b2:(l0.length==l1.length)=true:=by first|simpa using c3|(simp at c3 ⊢;omega)
  clear c3;have H':=a_ H;clear H;go_enter Tryz.func54,Tryz.ntmps54;go_wp2;repeat (go_quiet (fail);try go_wp2)
  go_loopg [5] k (fun kq v5 w'=>∃(x5_1:Int),v5=.int .i64 x5_1∧z0_ (x6_.l0 kq l0 l1 x5_1=some true)∧z0_ (kq≤k)∧x4_ w w')
  case atStart=>exact ⟨(0),mq_,H',⟨Nat.le_refl _⟩,by repeat (first|exact x4_.refl _|apply x4_.step)⟩
  clear H';(try clear c3b0);(try clear c3b1);(try clear c3b2);obtain ⟨x5_1,rfl,HA,HK1,⟨m1,rfl⟩⟩:=hrel;obtain _|k1:=gk
  ·exact absurd HA.out (by simp [x6_.l0])
  have H:=HA.out;clear HA;simp only [x6_.l0] at H;by_cases c4:x5_1<(l0.length:Int)
  ·rw [if_pos c4] at H;have c4b0:=ct_ c4;clear c4;by_cases c5:0≤x5_1
   case neg=>
    rw [if_neg c5] at H;cases H
   rw [if_pos c5] at H;have c5b0:=ct_ c5;clear c5;by_cases c6:x5_1<(l1.length:Int)
   case neg=>
    rw [if_neg c6] at H;cases H
   rw [if_pos c6] at H;have c6b0:=ct_ c6;clear c6;obtain ⟨t470,A7,H⟩:=ob_ H;by_cases c8:t470=true
   ·subst c8;rw [if_pos rfl] at H;have H':=a_ H;clear H;have p468:0≤(x5_1:Int):=md_
    have q468:x5_1<(l0.length:Int):=md_
    obtain ⟨ad468,A468_0,c468_0,e468,hx468_0,hl468_0,hi468_0⟩:=at_L9 HR0.out x5_1 p468 q468;cases e468;have HR468_0:=a_ hi468_0;have HC468_0:=a_ hl468_0;clear hi468_0 hl468_0;replace p468:=eq_true p468;replace q468:=eq_true q468;have p469:0≤(x5_1:Int):=md_
    have q469:x5_1<(l1.length:Int):=md_
    obtain ⟨ad469,A469_0,c469_0,e469,hx469_0,hl469_0,hi469_0⟩:=at_L9 HR1.out x5_1 p469 q469;cases e469;have HR469_0:=a_ hi469_0;have HC469_0:=a_ hl469_0;clear hi469_0 hl469_0;replace p469:=eq_true p469;replace q469:=eq_true q469;go_wp2_with (first|(go_at_call 97;(with_reducible refine (yi_.calls k1 _ _ (rd_L9 l0 x5_1) _ _ (rd_L9 l1 x5_1) true _ ?side1 HC468_0.out ?side3 HC469_0.out A7.out).mono ?_);(case side1=>repeat (first|exact HR468_0.out|(with_reducible refine Kd.C_alloc ?_ _)|(with_reducible refine Kd.C_drewN ?_ _)|(with_reducible refine Kd.C_drew ?_)));(case side3=>repeat (first|exact HR469_0.out|(with_reducible refine Kd.C_alloc ?_ _)|(with_reducible refine Kd.C_drewN ?_ _)|(with_reducible refine Kd.C_drew ?_)));rintro e w' ⟨rfl,⟨nd,rfl⟩⟩;(try first|exact ⟨rfl,_,World.drewN_drewN _ _ _⟩|exact ⟨rfl,_,Eq.trans (World.drewN_drewN _ _ _) (congrArg (World.drewN _) (Nat.add_assoc _ _ _))⟩)));repeat (go_quiet (first|(go_at_call 97;(with_reducible refine (yi_.calls k1 _ _ (rd_L9 l0 x5_1) _ _ (rd_L9 l1 x5_1) true _ ?side1 HC468_0.out ?side3 HC469_0.out A7.out).mono ?_);(case side1=>repeat (first|exact HR468_0.out|(with_reducible refine Kd.C_alloc ?_ _)|(with_reducible refine Kd.C_drewN ?_ _)|(with_reducible refine Kd.C_drew ?_)));(case side3=>repeat (first|exact HR469_0.out|(with_reducible refine Kd.C_alloc ?_ _)|(with_reducible refine Kd.C_drewN ?_ _)|(with_reducible refine Kd.C_drew ?_)));rintro e w' ⟨rfl,⟨nd,rfl⟩⟩;(try first|exact ⟨rfl,_,World.drewN_drewN _ _ _⟩|exact ⟨rfl,_,Eq.trans (World.drewN_drewN _ _ _) (congrArg (World.drewN _) (Nat.add_assoc _ _ _))⟩)));try go_wp2_with (first|(go_at_call 97;(with_reducible refine (yi_.calls k1 _ _ (rd_L9 l0 x5_1) _ _ (rd_L9 l1 x5_1) true _ ?side1 HC468_0.out ?side3 HC469_0.out A7.out).mono ?_);(case side1=>repeat (first|exact HR468_0.out|(with_reducible refine Kd.C_alloc ?_ _)|(with_reducible refine Kd.C_drewN ?_ _)|(with_reducible refine Kd.C_drew ?_)));(case side3=>repeat (first|exact HR469_0.out|(with_reducible refine Kd.C_alloc ?_ _)|(with_reducible refine Kd.C_drewN ?_ _)|(with_reducible refine Kd.C_drew ?_)));rintro e w' ⟨rfl,⟨nd,rfl⟩⟩;(try first|exact ⟨rfl,_,World.drewN_drewN _ _ _⟩|exact ⟨rfl,_,Eq.trans (World.drewN_drewN _ _ _) (congrArg (World.drewN _) (Nat.add_assoc _ _ _))⟩))))
    go_roundg k1
    case measure=>
     have:=HK1.out
     omega
    case rel=>exact ⟨(wrap64 (x5_1+1)),mq_,H',⟨by have:=HK1.out;omega⟩,by repeat (first|exact x4_.refl _|apply x4_.step)⟩
   ·replace c8:=Bool.eq_false_iff.mpr c8;subst c8;rw [if_neg (show ¬(false=true) by decide)] at H;exact absurd (Option.some.inj H) (by decide)
  ·rw [if_neg c4] at H;have c4b0:=cf_ c4;clear c4;clear H;go_wp2;repeat (go_quiet (fail);try go_wp2)
   go_ret;exact ⟨by first|rfl|(simp;done)|(simp [*];done),by repeat (first|exact x4_.refl _|apply x4_.step)⟩
 ·rw [if_neg c3] at H;obtain ⟨c3b0,c3b1⟩:=bn_ c3;have c3b2:(l0.length==l1.length)=false:=by first|simpa using c3|(simp at c3 ⊢;omega)
  exact absurd (Option.some.inj H) (by decide)
def laws_eqNet.f (k:Nat) (l0_0:List (S50)) (l0_1:List (List Int)) (l1_0:List (S50)) (l1_1:List (List Int)):Option (Bool):=(y8_.f k l0_0 l1_0).bind fun t473=>(if t473=true then ((x6_.f k l0_1 l1_1).bind fun t474=>(if t474=true then (some true) else (some false))) else (some false))
theorem laws_eqNet.mono:∀a0 a1 a2 a3 k,LeO (laws_eqNet.f k a0 a1 a2 a3) (laws_eqNet.f (k+1) a0 a1 a2 a3):=by
 intro a0 a1 a2 a3 k;unfold laws_eqNet.f
 repeat' with_reducible first|apply y8_.mono|apply x6_.mono|apply LeO.refl|apply LeO.none|refine LeO.ite ?_ ?_|refine LeO.bind ?_ (fun _=>?_)
set_option maxHeartbeats 8000000 in
set_option maxRecDepth 100000 in
theorem laws_eqNet.calls (k:Nat) (A0_0:Option Addr) (c0_0:Nat) (l0_0:List (S50)) (A0_1:Option Addr) (c0_1:Nat) (l0_1:List (List Int)) (A1_0:Option Addr) (c1_0:Nat) (l1_0:List (S50)) (A1_1:Option Addr) (c1_1:Nat) (l1_1:List (List Int)) (r:Bool) (w:World) (hr0_0:Kd.C k50 w A0_0 l0_0.length l0_0) (hc0_0:l0_0.length≤c0_0) (hr0_1:Kd.C (Kd.slice 3 (Kd.int .i64)) w A0_1 l0_1.length l0_1) (hc0_1:l0_1.length≤c0_1) (hr1_0:Kd.C k50 w A1_0 l1_0.length l1_0) (hc1_0:l1_0.length≤c1_0) (hr1_1:Kd.C (Kd.slice 3 (Kd.int .i64)) w A1_1 l1_1.length l1_1) (hc1_1:l1_1.length≤c1_1) (h:laws_eqNet.f k l0_0 l0_1 l1_0 l1_1=some r) (hT_:r=true:=by first|rfl|assumption):
  Calls Tryz.prog 22 #[.agg #[.slice A0_0 l0_0.length c0_0,.slice A0_1 l0_1.length c0_1],.agg #[.slice A1_0 l1_0.length c1_0,.slice A1_1 l1_1.length c1_1]] w fun e w'=>e=.returned (.bool r)∧Below w.heap.size w w':=by
 subst hT_;have hu32:=Tryz.underlying32;have HR0_0:=a_ hr0_0;have HC0_0:=a_ hc0_0;clear hr0_0 hc0_0;have HR0_1:=a_ hr0_1;have HC0_1:=a_ hc0_1;clear hr0_1 hc0_1;have HR1_0:=a_ hr1_0;have HC1_0:=a_ hc1_0;clear hr1_0 hc1_0;have HR1_1:=a_ hr1_1;have HC1_1:=a_ hc1_1;clear hr1_1 hc1_1;have HB:=a_ (Below.refl w.heap.size w);have H:=h;unfold laws_eqNet.f at H
 clear h;obtain ⟨t473,A3,H⟩:=ob_ H;by_cases c4:t473=true
 ·subst c4;rw [if_pos rfl] at H;obtain ⟨t474,A5,H⟩:=ob_ H;by_cases c6:t474=true
  ·subst c6;rw [if_pos rfl] at H;clear H;go_enter Tryz.func22,Tryz.ntmps22;go_wp2_with (first|((with_reducible refine zl_ (N:=2) rfl ?_);refine bh_ 2 #[.slice A0_0 l0_0.length c0_0,.slice A0_1 l0_1.length c0_1] 32 HB ?_;intro gb471 hg wx BK471 GE471 hb;replace HB:=ms_ HB hb;clear hb hg)|((with_reducible refine zl_ (N:=3) rfl ?_);refine bh_ 3 #[.slice A1_0 l1_0.length c1_0,.slice A1_1 l1_1.length c1_1] 32 HB ?_;intro gb472 hg wx BK472 GE472 hb;obtain ⟨NB471_472,NB472_471⟩:=mn_ BK471 hg;replace BK471:=mk_ BK471 hb;replace HB:=ms_ HB hb;clear hb hg;have nNB471_472:=NB471_472.out;have nNB472_471:=NB472_471.out;replace hz471:=cz2 BK471;replace hz472:=cz2 BK472)|((with_reducible refine zg_ (f:=53) rfl ?_);refine xf_ (some 9) rfl rfl Tryz.func53 (by kernel_rfl) rfl #[.slice A0_0 l0_0.length c0_0,.slice A1_0 l1_0.length c1_0] rfl mw_ ?_;(with_reducible refine (y8_.calls k _ _ l0_0 _ _ l1_0 true _ ?side1 HC0_0.out ?side3 HC1_0.out A3.out).mono ?_);(case side1=>exact mt_ HR0_0 HB);(case side3=>exact mt_ HR1_0 HB);rintro e wx ⟨rfl,hb⟩;refine ⟨_,rfl,?_⟩;replace BK471:=mk_ BK471 hb;replace BK472:=mk_ BK472 hb;replace HB:=ms_ HB hb;(try clear hb);replace hz471:=cz2 BK471;replace hz472:=cz2 BK472)|((with_reducible refine zg_ (f:=54) rfl ?_);refine xf_ (some 15) rfl rfl Tryz.func54 (by kernel_rfl) rfl #[.slice A0_1 l0_1.length c0_1,.slice A1_1 l1_1.length c1_1] rfl mw_ ?_;(with_reducible refine (x6_.calls k _ _ l0_1 _ _ l1_1 true _ ?side1 HC0_1.out ?side3 HC1_1.out A5.out).mono ?_);(case side1=>exact mt_ HR0_1 HB);(case side3=>exact mt_ HR1_1 HB);rintro e w' ⟨rfl,⟨nd,rfl⟩⟩;refine ⟨_,rfl,?_⟩));go_ret;exact ⟨me_,mb_ HB⟩
  ·replace c6:=Bool.eq_false_iff.mpr c6;subst c6;rw [if_neg (show ¬(false=true) by decide)] at H;exact absurd (Option.some.inj H) (by decide)
 ·replace c4:=Bool.eq_false_iff.mpr c4;subst c4;rw [if_neg (show ¬(false=true) by decide)] at H;exact absurd (Option.some.inj H) (by decide)
def zs_.l0:Nat→List (S82)→Int→Int→Option (Int×(List (S82)))
 | 0,_,_,_=>none
 | k+1,x0,x1,x5=>if x5<(x0.length:Int) then (if 0≤x5 then ((some (x0.set (x5:Int).toNat (⟨x1,(zb_ x0 x5).f1,(zb_ x0 x5).f2,(⟨(zb_ x0 x5).f3.f0,(zb_ x0 x5).f3.f1,(zb_ x0 x5).f3.f2⟩:S80)⟩:S82):List (S82))).bind fun y475=>((some (y475.set (x5:Int).toNat (⟨(zb_ y475 x5).f0,wrap64 (x1+1),(zb_ y475 x5).f2,(⟨(zb_ y475 x5).f3.f0,(zb_ y475 x5).f3.f1,(zb_ y475 x5).f3.f2⟩:S80)⟩:S82):List (S82))).bind fun y476=>((some (y476.set (x5:Int).toNat (⟨(zb_ y476 x5).f0,(zb_ y476 x5).f1,wrap64 ((wrap64 (x1+1))+1),(⟨(zb_ y476 x5).f3.f0,(zb_ y476 x5).f3.f1,(zb_ y476 x5).f3.f2⟩:S80)⟩:S82):List (S82))).bind fun y477=>((some (y477.set (x5:Int).toNat (⟨(zb_ y477 x5).f0,(zb_ y477 x5).f1,(zb_ y477 x5).f2,(⟨wrap64 ((wrap64 ((wrap64 (x1+1))+1))+1),(zb_ y477 x5).f3.f1,(zb_ y477 x5).f3.f2⟩:S80)⟩:S82):List (S82))).bind fun y478=>((some (y478.set (x5:Int).toNat (⟨(zb_ y478 x5).f0,(zb_ y478 x5).f1,(zb_ y478 x5).f2,(⟨(zb_ y478 x5).f3.f0,wrap64 ((wrap64 ((wrap64 ((wrap64 (x1+1))+1))+1))+1),(zb_ y478 x5).f3.f2⟩:S80)⟩:S82):List (S82))).bind fun y479=>((zi_.f k (wrap64 ((wrap64 ((wrap64 ((wrap64 ((wrap64 (x1+1))+1))+1))+1))+1))).bind fun t480=>(zs_.l0 k (y479.set (x5:Int).toNat (⟨(zb_ y479 x5).f0,(zb_ y479 x5).f1,(zb_ y479 x5).f2,(⟨(zb_ y479 x5).f3.f0,(zb_ y479 x5).f3.f1,t480⟩:S80)⟩:S82)) (wrap64 ((wrap64 ((wrap64 ((wrap64 ((wrap64 ((wrap64 (x1+1))+1))+1))+1))+1))+1)) (wrap64 (x5+1))))))))) else (none)) else (some (x1,x0))
def zs_.f (k:Nat) (l0:List (S82)) (a1:Int):Option (Int×(List (S82))):=zs_.l0 k l0 a1 0
theorem zs_.y6_:∀k,(∀y0 y1 y2,LeO (zs_.l0 k y0 y1 y2) (zs_.l0 (k+1) y0 y1 y2))
 | 0=>fun _ _ _ r h=>by simp [zs_.l0] at h
 | k+1=>by
  have ih0:=zs_.y6_ k
  ·intro y0 y1 y2;unfold zs_.l0
   repeat' with_reducible first|apply ih0|apply zi_.mono|apply LeO.refl|apply LeO.none|refine LeO.ite ?_ ?_|refine LeO.bind ?_ (fun _=>?_)
theorem zs_.mono:∀a0 a1 k,LeO (zs_.f k a0 a1) (zs_.f (k+1) a0 a1):=by
 intro a0 a1 k;have ih0:=zs_.y6_ k;unfold zs_.f
 repeat' with_reducible first|apply ih0|apply zi_.mono|apply LeO.refl|apply LeO.none|refine LeO.ite ?_ ?_|refine LeO.bind ?_ (fun _=>?_)
set_option maxHeartbeats 8000000 in
set_option maxRecDepth 100000 in
theorem zs_.calls (k:Nat) (P0_:Nat→Prop) (u9000_:Value) (l0:List (S82)) (a1:Int) (r1:Int) (r2:List (S82)) (w0 w:World) (hB:Below w0.heap.size w0 w) (ho0:Kd.R k82 82 w w0.heap.size P0_ u9000_ l0) (h:zs_.f k l0 a1=some (r1,r2)):
  Calls Tryz.prog 98 #[u9000_,.int .i64 a1] w fun e w'=>e=.returned (.int .i64 r1)∧Kd.R k82 82 w' w0.heap.size (fun k_=>(P0_ k_∨w.heap.size≤k_)) u9000_ r2∧Below w0.heap.size w0 w'∧Kept w w' (fun k_=>P0_ k_):=by
 have HO0:=a_ (show Kd.R k82 82 w w0.heap.size (fun k_=>(P0_ k_∨w.heap.size≤k_)) u9000_ l0 from Kd.yk_ ho0 (fun k_ hk=>(.inl hk)));have HK:=a_ (Kept.refl w (fun k_=>P0_ k_));have HW0:=a_ hB.size;have HB:=a_ hB;clear hB;have H:(zs_.l0 k l0 a1 0)=some (r1,r2):=h
 clear h;have H':=a_ H;clear H;go_enter Tryz.func98,Tryz.ntmps98;go_wp2;go_loopg [1,5] k (fun kq v1 v5 w'=>∃(x0_1:List (S82)) (x1_1:Int) (x5_1:Int),v1=.int .i64 x1_1∧v5=.int .i64 x5_1∧z0_ (zs_.l0 kq x0_1 x1_1 x5_1=some (r1,r2))∧z0_ (kq≤k)∧z0_ (Kd.R k82 82 w' w0.heap.size (fun k_=>(P0_ k_∨w.heap.size≤k_)) u9000_ x0_1)∧z0_ (Kept w w' (fun k_=>P0_ k_))∧z0_ (Below w0.heap.size w0 w'))
 case atStart=>exact ⟨(l0),(a1),(0),mq_,mq_,H',⟨Nat.le_refl _⟩,⟨mo_ HO0.out⟩,⟨by repeat (first|(with_reducible first|exact HK.out|apply Kept.alloc|apply Kept.drewN|apply Kept.drew)|exact HK.out)⟩,⟨mb_ HB⟩⟩
 clear H';obtain ⟨x0_1,x1_1,x5_1,rfl,rfl,HA,HK1,HO_0,HK,HB⟩:=hrel;obtain _|k1:=gk
 ·exact absurd HA.out (by simp [zs_.l0])
 have H:=HA.out;clear HA;simp only [zs_.l0] at H;by_cases c3:x5_1<(x0_1.length:Int)
 ·rw [if_pos c3] at H;have c3b0:=ct_ c3;clear c3;by_cases c4:0≤x5_1
  case neg=>
   rw [if_neg c4] at H;cases H
  rw [if_pos c4] at H;have c4b0:=ct_ c4;clear c4;obtain ⟨y475,hy475⟩:∃y_:List (S82),y_=(x0_1.set (x5_1:Int).toNat (⟨x1_1,(zb_ x0_1 x5_1).f1,(zb_ x0_1 x5_1).f2,(⟨(zb_ x0_1 x5_1).f3.f0,(zb_ x0_1 x5_1).f3.f1,(zb_ x0_1 x5_1).f3.f2⟩:S80)⟩:S82)):=⟨_,rfl⟩;rw [←hy475] at H;(try rw [Option.bind_some] at H);have Ny475:=a_ hy475;clear hy475;obtain ⟨y476,hy476⟩:∃y_:List (S82),y_=(y475.set (x5_1:Int).toNat (⟨(zb_ y475 x5_1).f0,wrap64 (x1_1+1),(zb_ y475 x5_1).f2,(⟨(zb_ y475 x5_1).f3.f0,(zb_ y475 x5_1).f3.f1,(zb_ y475 x5_1).f3.f2⟩:S80)⟩:S82)):=⟨_,rfl⟩;rw [←hy476] at H;(try rw [Option.bind_some] at H);have Ny476:=a_ hy476;clear hy476;obtain ⟨y477,hy477⟩:∃y_:List (S82),y_=(y476.set (x5_1:Int).toNat (⟨(zb_ y476 x5_1).f0,(zb_ y476 x5_1).f1,wrap64 ((wrap64 (x1_1+1))+1),(⟨(zb_ y476 x5_1).f3.f0,(zb_ y476 x5_1).f3.f1,(zb_ y476 x5_1).f3.f2⟩:S80)⟩:S82)):=⟨_,rfl⟩;rw [←hy477] at H;(try rw [Option.bind_some] at H);have Ny477:=a_ hy477;clear hy477;obtain ⟨y478,hy478⟩:∃y_:List (S82),y_=(y477.set (x5_1:Int).toNat (⟨(zb_ y477 x5_1).f0,(zb_ y477 x5_1).f1,(zb_ y477 x5_1).f2,(⟨wrap64 ((wrap64 ((wrap64 (x1_1+1))+1))+1),(zb_ y477 x5_1).f3.f1,(zb_ y477 x5_1).f3.f2⟩:S80)⟩:S82)):=⟨_,rfl⟩;rw [←hy478] at H;(try rw [Option.bind_some] at H);have Ny478:=a_ hy478;clear hy478;obtain ⟨y479,hy479⟩:∃y_:List (S82),y_=(y478.set (x5_1:Int).toNat (⟨(zb_ y478 x5_1).f0,(zb_ y478 x5_1).f1,(zb_ y478 x5_1).f2,(⟨(zb_ y478 x5_1).f3.f0,wrap64 ((wrap64 ((wrap64 ((wrap64 (x1_1+1))+1))+1))+1),(zb_ y478 x5_1).f3.f2⟩:S80)⟩:S82)):=⟨_,rfl⟩;rw [←hy479] at H;(try rw [Option.bind_some] at H);have Ny479:=a_ hy479;clear hy479;obtain ⟨t480,A10,H⟩:=ob_ H;obtain ⟨y481,hy481⟩:∃y_:List (S82),y_=(y479.set (x5_1:Int).toNat (⟨(zb_ y479 x5_1).f0,(zb_ y479 x5_1).f1,(zb_ y479 x5_1).f2,(⟨(zb_ y479 x5_1).f3.f0,(zb_ y479 x5_1).f3.f1,t480⟩:S80)⟩:S82)):=⟨_,rfl⟩;rw [←hy481] at H;(try rw [Option.bind_some] at H);have Ny481:=a_ hy481;clear hy481;have H':=a_ H;clear H;obtain ⟨Ao12,co12,eo12⟩:=Kd.yv_ HO_0.out;subst eo12;have p5:0≤(x5_1:Int):=md_
  have q5:(x5_1:Int)<((x0_1.length:Int):Int):=md_
  obtain ⟨go5,co5,eo5,gb5,gl5,cl5,HG5⟩:=Kd.R_form HO_0.out (by omega);(first|cases eo5|(injection eo5 with ea_ en_ ec_;(first|subst ea_|(injection ea_ with ea_;subst ea_));subst ec_;clear en_));have GB5:=a_ gb5;have GG5:=a_ HG5;clear gb5 gl5 HG5;have HMgo5:=a_ (show (P0_ go5∨w.heap.size≤go5) from (HO_0.out.1 _ rfl));obtain ⟨ce5,hcl5,hM5,hcc5,hfr5⟩:=Kd.R_elem HO_0.out z82 (x5_1:Int) p5 q5;obtain rfl:=k82_openM hM5;have hx5_0:wr.cell? ⟨go5,(x5_1:Int).toNat*6,none⟩=some (.int .i64 ((zb_ x0_1 x5_1).f0)):=hcc5 0 _ rfl
  have hx5_1:wr.cell? ⟨go5,(x5_1:Int).toNat*6+1,none⟩=some (.int .i64 ((zb_ x0_1 x5_1).f1)):=hcc5 1 _ rfl
  have hx5_2:wr.cell? ⟨go5,(x5_1:Int).toNat*6+2,none⟩=some (.int .i64 ((zb_ x0_1 x5_1).f2)):=hcc5 2 _ rfl
  have hx5_3:wr.cell? ⟨go5,(x5_1:Int).toNat*6+3,none⟩=some (.int .i64 ((zb_ x0_1 x5_1).f3.f0)):=hcc5 3 _ rfl
  have hx5_4:wr.cell? ⟨go5,(x5_1:Int).toNat*6+4,none⟩=some (.int .i64 ((zb_ x0_1 x5_1).f3.f1)):=hcc5 4 _ rfl
  have hx5_5:wr.cell? ⟨go5,(x5_1:Int).toNat*6+5,none⟩=some (.string ((zb_ x0_1 x5_1).f3.f2)):=hcc5 5 _ rfl
  have hf5_0:wr.frozen? ⟨go5,(x5_1:Int).toNat*6,none⟩=false:=hfr5 0
  have hf5_1:wr.frozen? ⟨go5,(x5_1:Int).toNat*6+1,none⟩=false:=hfr5 1
  have hf5_2:wr.frozen? ⟨go5,(x5_1:Int).toNat*6+2,none⟩=false:=hfr5 2
  have hf5_3:wr.frozen? ⟨go5,(x5_1:Int).toNat*6+3,none⟩=false:=hfr5 3
  have hf5_4:wr.frozen? ⟨go5,(x5_1:Int).toNat*6+4,none⟩=false:=hfr5 4
  have hf5_5:wr.frozen? ⟨go5,(x5_1:Int).toNat*6+5,none⟩=false:=hfr5 5
  clear hcl5 hcc5 hfr5;(try clear hM5);replace p5:=eq_true p5;replace q5:=eq_true q5;have HX13:=a_ (show Kd.R k82 82 wr w0.heap.size (fun k_=>(P0_ k_∨w.heap.size≤k_)) (.slice (some ⟨go5,0,none⟩) x0_1.length co12) x0_1 from (mo_ HO_0.out));obtain ⟨ce13,hcl13,hM13,hcc13,hfr13⟩:=Kd.R_elem HX13.out z82 (x5_1:Int) (md_) (by have h_:(x5_1:Int)<((x0_1.length:Int):Int):=md_;first|exact h_|(have e_:=(Kd.yb_ HO_0.out).1;omega)|simpa using h_);obtain rfl:=k82_openM hM13;have HP13:=Kd.R_seg HX13.out (x5_1:Int) (md_) (by have h_:(x5_1:Int)<((x0_1.length:Int):Int):=md_;first|exact h_|(have e_:=(Kd.yb_ HO_0.out).1;omega)|simpa using h_) (seg:=[.int .i64 x1_1]) (j:=0) hcl13 hcc13 (show 1≤6 from by decide) (x':=(⟨x1_1,(zb_ x0_1 x5_1).f1,(zb_ x0_1 x5_1).f2,(⟨(zb_ x0_1 x5_1).f3.f0,(zb_ x0_1 x5_1).f3.f1,(zb_ x0_1 x5_1).f3.f2⟩:S80)⟩:S82)) (k82_mkM _ _ _ (⟨x1_1,(zb_ x0_1 x5_1).f1,(zb_ x0_1 x5_1).f2,(⟨(zb_ x0_1 x5_1).f3.f0,(zb_ x0_1 x5_1).f3.f1,(zb_ x0_1 x5_1).f3.f2⟩:S80)⟩:S82) ) (fun _ hk=>hk);have hx13_0:=hcc13 0 _ rfl;(try simp only [show (k82).sz=6 from rfl,Nat.mul_one,Nat.add_zero] at hx13_0);have hf13_0:=hfr13 0;(try simp only [show (k82).sz=6 from rfl,Nat.mul_one,Nat.add_zero] at hf13_0);clear hcl13 hcc13 hfr13;(try clear hM13);go_wp2_with (first|((with_reducible refine gate_store (t:=3) (p:=16) rfl ?_);refine store_event (t:=3) (p:=16) (v:=?vo_w14) (w1:=(wr.setCell ⟨go5,(x5_1:Int).toNat*6,none⟩ (.int .i64 x1_1))) ?hg ?ho ?hn ?hr ?_;(case ho=>rfl);(case hg=>rfl);(case hn=>rfl);(case hr=>first|(go_simp;done)|(go_simp;rfl));intro w14 hw;have hg:wr.grownBy w14 (some go5):=(by rw [hw];exact HP13.2);have hp_:Kd.R k82 82 w14 w0.heap.size (fun k_=>(P0_ k_∨w.heap.size≤k_)) (.slice (some ⟨go5,0,none⟩) x0_1.length co12) y475:=(by rw [hw,Ny475.out];exact HP13.1);clear HP13;have n0_:=a_ (hp_);have n1_:=a_ ((by rw [hw];exact zu_ (HB.out) GB5.out:Below w0.heap.size w0 w14));have n2_:=a_ (Kept.of_grown (S:=(fun k_=>P0_ k_)) hg (by repeat (first|(with_reducible first|exact HK.out|apply Kept.alloc|apply Kept.drewN|apply Kept.drew)|exact HK.out)) (fun k_ e_=>(HO_0.out.1 k_ e_)));clear HO_0;clear HB;clear HK;have HO_0:=n0_;have HB:=n1_;have HK:=n2_;clear n0_ n1_ n2_;clear hg hw hp_;have p6:0≤(x5_1:Int):=md_;have q6:(x5_1:Int)<((x0_1.length:Int):Int):=md_;obtain ⟨ce6,hcl6,hM6,hcc6,hfr6⟩:=Kd.R_elem HO_0.out z82 (x5_1:Int) p6 q6;obtain rfl:=k82_openM hM6;have hx6_0:w14.cell? ⟨go5,(x5_1:Int).toNat*6,none⟩=some (.int .i64 ((zb_ y475 x5_1).f0)):=hcc6 0 _ rfl;have hx6_1:w14.cell? ⟨go5,(x5_1:Int).toNat*6+1,none⟩=some (.int .i64 ((zb_ y475 x5_1).f1)):=hcc6 1 _ rfl;have hx6_2:w14.cell? ⟨go5,(x5_1:Int).toNat*6+2,none⟩=some (.int .i64 ((zb_ y475 x5_1).f2)):=hcc6 2 _ rfl;have hx6_3:w14.cell? ⟨go5,(x5_1:Int).toNat*6+3,none⟩=some (.int .i64 ((zb_ y475 x5_1).f3.f0)):=hcc6 3 _ rfl;have hx6_4:w14.cell? ⟨go5,(x5_1:Int).toNat*6+4,none⟩=some (.int .i64 ((zb_ y475 x5_1).f3.f1)):=hcc6 4 _ rfl;have hx6_5:w14.cell? ⟨go5,(x5_1:Int).toNat*6+5,none⟩=some (.string ((zb_ y475 x5_1).f3.f2)):=hcc6 5 _ rfl;have hf6_0:w14.frozen? ⟨go5,(x5_1:Int).toNat*6,none⟩=false:=hfr6 0;have hf6_1:w14.frozen? ⟨go5,(x5_1:Int).toNat*6+1,none⟩=false:=hfr6 1;have hf6_2:w14.frozen? ⟨go5,(x5_1:Int).toNat*6+2,none⟩=false:=hfr6 2;have hf6_3:w14.frozen? ⟨go5,(x5_1:Int).toNat*6+3,none⟩=false:=hfr6 3;have hf6_4:w14.frozen? ⟨go5,(x5_1:Int).toNat*6+4,none⟩=false:=hfr6 4;have hf6_5:w14.frozen? ⟨go5,(x5_1:Int).toNat*6+5,none⟩=false:=hfr6 5;clear hcl6 hcc6 hfr6;(try clear hM6);replace p6:=eq_true p6;replace q6:=eq_true q6;have HX15:=a_ (show Kd.R k82 82 w14 w0.heap.size (fun k_=>(P0_ k_∨w.heap.size≤k_)) (.slice (some ⟨go5,0,none⟩) x0_1.length co12) y475 from (mo_ HO_0.out));obtain ⟨ce15,hcl15,hM15,hcc15,hfr15⟩:=Kd.R_elem HX15.out z82 (x5_1:Int) (md_) (by have h_:(x5_1:Int)<((x0_1.length:Int):Int):=md_;first|exact h_|(have e_:=(Kd.yb_ HO_0.out).1;omega)|simpa using h_);obtain rfl:=k82_openM hM15;have HP15:=Kd.R_seg HX15.out (x5_1:Int) (md_) (by have h_:(x5_1:Int)<((x0_1.length:Int):Int):=md_;first|exact h_|(have e_:=(Kd.yb_ HO_0.out).1;omega)|simpa using h_) (seg:=[.int .i64 (wrap64 (x1_1+1))]) (j:=1) hcl15 hcc15 (show 2≤6 from by decide) (x':=(⟨(zb_ y475 x5_1).f0,wrap64 (x1_1+1),(zb_ y475 x5_1).f2,(⟨(zb_ y475 x5_1).f3.f0,(zb_ y475 x5_1).f3.f1,(zb_ y475 x5_1).f3.f2⟩:S80)⟩:S82)) (k82_mkM _ _ _ (⟨(zb_ y475 x5_1).f0,wrap64 (x1_1+1),(zb_ y475 x5_1).f2,(⟨(zb_ y475 x5_1).f3.f0,(zb_ y475 x5_1).f3.f1,(zb_ y475 x5_1).f3.f2⟩:S80)⟩:S82) ) (fun _ hk=>hk);have hx15_1:=hcc15 1 _ rfl;(try simp only [show (k82).sz=6 from rfl,Nat.mul_one,Nat.add_zero] at hx15_1);have hf15_1:=hfr15 1;(try simp only [show (k82).sz=6 from rfl,Nat.mul_one,Nat.add_zero] at hf15_1);clear hcl15 hcc15 hfr15;(try clear hM15))|((with_reducible refine gate_store (t:=3) (p:=23) rfl ?_);refine store_event (t:=3) (p:=23) (v:=?vo_w16) (w1:=(w14.setCell ⟨go5,(x5_1:Int).toNat*6+1,none⟩ (.int .i64 (wrap64 (x1_1+1))))) ?hg ?ho ?hn ?hr ?_;(case ho=>rfl);(case hg=>rfl);(case hn=>rfl);(case hr=>first|(go_simp;done)|(go_simp;rfl));intro w16 hw;have hg:w14.grownBy w16 (some go5):=(by rw [hw];exact HP15.2);have hp_:Kd.R k82 82 w16 w0.heap.size (fun k_=>(P0_ k_∨w.heap.size≤k_)) (.slice (some ⟨go5,0,none⟩) x0_1.length co12) y476:=(by rw [hw,Ny476.out];exact HP15.1);clear HP15;have n0_:=a_ (hp_);have n1_:=a_ ((by rw [hw];exact zu_ (HB.out) GB5.out:Below w0.heap.size w0 w16));have n2_:=a_ (Kept.of_grown (S:=(fun k_=>P0_ k_)) hg (by repeat (first|(with_reducible first|exact HK.out|apply Kept.alloc|apply Kept.drewN|apply Kept.drew)|exact HK.out)) (fun k_ e_=>(HO_0.out.1 k_ e_)));clear HO_0;clear HB;clear HK;have HO_0:=n0_;have HB:=n1_;have HK:=n2_;clear n0_ n1_ n2_;clear hg hw hp_;have p7:0≤(x5_1:Int):=md_;have q7:(x5_1:Int)<((x0_1.length:Int):Int):=md_;obtain ⟨ce7,hcl7,hM7,hcc7,hfr7⟩:=Kd.R_elem HO_0.out z82 (x5_1:Int) p7 q7;obtain rfl:=k82_openM hM7;have hx7_0:w16.cell? ⟨go5,(x5_1:Int).toNat*6,none⟩=some (.int .i64 ((zb_ y476 x5_1).f0)):=hcc7 0 _ rfl;have hx7_1:w16.cell? ⟨go5,(x5_1:Int).toNat*6+1,none⟩=some (.int .i64 ((zb_ y476 x5_1).f1)):=hcc7 1 _ rfl;have hx7_2:w16.cell? ⟨go5,(x5_1:Int).toNat*6+2,none⟩=some (.int .i64 ((zb_ y476 x5_1).f2)):=hcc7 2 _ rfl;have hx7_3:w16.cell? ⟨go5,(x5_1:Int).toNat*6+3,none⟩=some (.int .i64 ((zb_ y476 x5_1).f3.f0)):=hcc7 3 _ rfl;have hx7_4:w16.cell? ⟨go5,(x5_1:Int).toNat*6+4,none⟩=some (.int .i64 ((zb_ y476 x5_1).f3.f1)):=hcc7 4 _ rfl;have hx7_5:w16.cell? ⟨go5,(x5_1:Int).toNat*6+5,none⟩=some (.string ((zb_ y476 x5_1).f3.f2)):=hcc7 5 _ rfl;have hf7_0:w16.frozen? ⟨go5,(x5_1:Int).toNat*6,none⟩=false:=hfr7 0;have hf7_1:w16.frozen? ⟨go5,(x5_1:Int).toNat*6+1,none⟩=false:=hfr7 1;have hf7_2:w16.frozen? ⟨go5,(x5_1:Int).toNat*6+2,none⟩=false:=hfr7 2;have hf7_3:w16.frozen? ⟨go5,(x5_1:Int).toNat*6+3,none⟩=false:=hfr7 3;have hf7_4:w16.frozen? ⟨go5,(x5_1:Int).toNat*6+4,none⟩=false:=hfr7 4;have hf7_5:w16.frozen? ⟨go5,(x5_1:Int).toNat*6+5,none⟩=false:=hfr7 5;clear hcl7 hcc7 hfr7;(try clear hM7);replace p7:=eq_true p7;replace q7:=eq_true q7;have HX17:=a_ (show Kd.R k82 82 w16 w0.heap.size (fun k_=>(P0_ k_∨w.heap.size≤k_)) (.slice (some ⟨go5,0,none⟩) x0_1.length co12) y476 from (mo_ HO_0.out));obtain ⟨ce17,hcl17,hM17,hcc17,hfr17⟩:=Kd.R_elem HX17.out z82 (x5_1:Int) (md_) (by have h_:(x5_1:Int)<((x0_1.length:Int):Int):=md_;first|exact h_|(have e_:=(Kd.yb_ HO_0.out).1;omega)|simpa using h_);obtain rfl:=k82_openM hM17;have HP17:=Kd.R_seg HX17.out (x5_1:Int) (md_) (by have h_:(x5_1:Int)<((x0_1.length:Int):Int):=md_;first|exact h_|(have e_:=(Kd.yb_ HO_0.out).1;omega)|simpa using h_) (seg:=[.int .i64 (wrap64 ((wrap64 (x1_1+1))+1))]) (j:=2) hcl17 hcc17 (show 3≤6 from by decide) (x':=(⟨(zb_ y476 x5_1).f0,(zb_ y476 x5_1).f1,wrap64 ((wrap64 (x1_1+1))+1),(⟨(zb_ y476 x5_1).f3.f0,(zb_ y476 x5_1).f3.f1,(zb_ y476 x5_1).f3.f2⟩:S80)⟩:S82)) (k82_mkM _ _ _ (⟨(zb_ y476 x5_1).f0,(zb_ y476 x5_1).f1,wrap64 ((wrap64 (x1_1+1))+1),(⟨(zb_ y476 x5_1).f3.f0,(zb_ y476 x5_1).f3.f1,(zb_ y476 x5_1).f3.f2⟩:S80)⟩:S82) ) (fun _ hk=>hk);have hx17_2:=hcc17 2 _ rfl;(try simp only [show (k82).sz=6 from rfl,Nat.mul_one,Nat.add_zero] at hx17_2);have hf17_2:=hfr17 2;(try simp only [show (k82).sz=6 from rfl,Nat.mul_one,Nat.add_zero] at hf17_2);clear hcl17 hcc17 hfr17;(try clear hM17))|((with_reducible refine gate_store (t:=3) (p:=30) rfl ?_);refine store_event (t:=3) (p:=30) (v:=?vo_w18) (w1:=(w16.setCell ⟨go5,(x5_1:Int).toNat*6+2,none⟩ (.int .i64 (wrap64 ((wrap64 (x1_1+1))+1))))) ?hg ?ho ?hn ?hr ?_;(case ho=>rfl);(case hg=>rfl);(case hn=>rfl);(case hr=>first|(go_simp;done)|(go_simp;rfl));intro w18 hw;have hg:w16.grownBy w18 (some go5):=(by rw [hw];exact HP17.2);have hp_:Kd.R k82 82 w18 w0.heap.size (fun k_=>(P0_ k_∨w.heap.size≤k_)) (.slice (some ⟨go5,0,none⟩) x0_1.length co12) y477:=(by rw [hw,Ny477.out];exact HP17.1);clear HP17;have n0_:=a_ (hp_);have n1_:=a_ ((by rw [hw];exact zu_ (HB.out) GB5.out:Below w0.heap.size w0 w18));have n2_:=a_ (Kept.of_grown (S:=(fun k_=>P0_ k_)) hg (by repeat (first|(with_reducible first|exact HK.out|apply Kept.alloc|apply Kept.drewN|apply Kept.drew)|exact HK.out)) (fun k_ e_=>(HO_0.out.1 k_ e_)));clear HO_0;clear HB;clear HK;have HO_0:=n0_;have HB:=n1_;have HK:=n2_;clear n0_ n1_ n2_;clear hg hw hp_;have p8:0≤(x5_1:Int):=md_;have q8:(x5_1:Int)<((x0_1.length:Int):Int):=md_;obtain ⟨ce8,hcl8,hM8,hcc8,hfr8⟩:=Kd.R_elem HO_0.out z82 (x5_1:Int) p8 q8;obtain rfl:=k82_openM hM8;have hx8_0:w18.cell? ⟨go5,(x5_1:Int).toNat*6,none⟩=some (.int .i64 ((zb_ y477 x5_1).f0)):=hcc8 0 _ rfl;have hx8_1:w18.cell? ⟨go5,(x5_1:Int).toNat*6+1,none⟩=some (.int .i64 ((zb_ y477 x5_1).f1)):=hcc8 1 _ rfl;have hx8_2:w18.cell? ⟨go5,(x5_1:Int).toNat*6+2,none⟩=some (.int .i64 ((zb_ y477 x5_1).f2)):=hcc8 2 _ rfl;have hx8_3:w18.cell? ⟨go5,(x5_1:Int).toNat*6+3,none⟩=some (.int .i64 ((zb_ y477 x5_1).f3.f0)):=hcc8 3 _ rfl;have hx8_4:w18.cell? ⟨go5,(x5_1:Int).toNat*6+4,none⟩=some (.int .i64 ((zb_ y477 x5_1).f3.f1)):=hcc8 4 _ rfl;have hx8_5:w18.cell? ⟨go5,(x5_1:Int).toNat*6+5,none⟩=some (.string ((zb_ y477 x5_1).f3.f2)):=hcc8 5 _ rfl;have hf8_0:w18.frozen? ⟨go5,(x5_1:Int).toNat*6,none⟩=false:=hfr8 0;have hf8_1:w18.frozen? ⟨go5,(x5_1:Int).toNat*6+1,none⟩=false:=hfr8 1;have hf8_2:w18.frozen? ⟨go5,(x5_1:Int).toNat*6+2,none⟩=false:=hfr8 2;have hf8_3:w18.frozen? ⟨go5,(x5_1:Int).toNat*6+3,none⟩=false:=hfr8 3;have hf8_4:w18.frozen? ⟨go5,(x5_1:Int).toNat*6+4,none⟩=false:=hfr8 4;have hf8_5:w18.frozen? ⟨go5,(x5_1:Int).toNat*6+5,none⟩=false:=hfr8 5;clear hcl8 hcc8 hfr8;(try clear hM8);replace p8:=eq_true p8;replace q8:=eq_true q8;have HX19:=a_ (show Kd.R k82 82 w18 w0.heap.size (fun k_=>(P0_ k_∨w.heap.size≤k_)) (.slice (some ⟨go5,0,none⟩) x0_1.length co12) y477 from (mo_ HO_0.out));obtain ⟨ce19,hcl19,hM19,hcc19,hfr19⟩:=Kd.R_elem HX19.out z82 (x5_1:Int) (md_) (by have h_:(x5_1:Int)<((x0_1.length:Int):Int):=md_;first|exact h_|(have e_:=(Kd.yb_ HO_0.out).1;omega)|simpa using h_);obtain rfl:=k82_openM hM19;have HP19:=Kd.R_seg HX19.out (x5_1:Int) (md_) (by have h_:(x5_1:Int)<((x0_1.length:Int):Int):=md_;first|exact h_|(have e_:=(Kd.yb_ HO_0.out).1;omega)|simpa using h_) (seg:=[.int .i64 (wrap64 ((wrap64 ((wrap64 (x1_1+1))+1))+1))]) (j:=3) hcl19 hcc19 (show 4≤6 from by decide) (x':=(⟨(zb_ y477 x5_1).f0,(zb_ y477 x5_1).f1,(zb_ y477 x5_1).f2,(⟨wrap64 ((wrap64 ((wrap64 (x1_1+1))+1))+1),(zb_ y477 x5_1).f3.f1,(zb_ y477 x5_1).f3.f2⟩:S80)⟩:S82)) (k82_mkM _ _ _ (⟨(zb_ y477 x5_1).f0,(zb_ y477 x5_1).f1,(zb_ y477 x5_1).f2,(⟨wrap64 ((wrap64 ((wrap64 (x1_1+1))+1))+1),(zb_ y477 x5_1).f3.f1,(zb_ y477 x5_1).f3.f2⟩:S80)⟩:S82) ) (fun _ hk=>hk);have hx19_3:=hcc19 3 _ rfl;(try simp only [show (k82).sz=6 from rfl,Nat.mul_one,Nat.add_zero] at hx19_3);have hf19_3:=hfr19 3;(try simp only [show (k82).sz=6 from rfl,Nat.mul_one,Nat.add_zero] at hf19_3);clear hcl19 hcc19 hfr19;(try clear hM19))|((with_reducible refine gate_store (t:=3) (p:=38) rfl ?_);refine store_event (t:=3) (p:=38) (v:=?vo_w20) (w1:=(w18.setCell ⟨go5,(x5_1:Int).toNat*6+3,none⟩ (.int .i64 (wrap64 ((wrap64 ((wrap64 (x1_1+1))+1))+1))))) ?hg ?ho ?hn ?hr ?_;(case ho=>rfl);(case hg=>rfl);(case hn=>rfl);(case hr=>first|(go_simp;done)|(go_simp;rfl));intro w20 hw;have hg:w18.grownBy w20 (some go5):=(by rw [hw];exact HP19.2);have hp_:Kd.R k82 82 w20 w0.heap.size (fun k_=>(P0_ k_∨w.heap.size≤k_)) (.slice (some ⟨go5,0,none⟩) x0_1.length co12) y478:=(by rw [hw,Ny478.out];exact HP19.1);clear HP19;have n0_:=a_ (hp_);have n1_:=a_ ((by rw [hw];exact zu_ (HB.out) GB5.out:Below w0.heap.size w0 w20));have n2_:=a_ (Kept.of_grown (S:=(fun k_=>P0_ k_)) hg (by repeat (first|(with_reducible first|exact HK.out|apply Kept.alloc|apply Kept.drewN|apply Kept.drew)|exact HK.out)) (fun k_ e_=>(HO_0.out.1 k_ e_)));clear HO_0;clear HB;clear HK;have HO_0:=n0_;have HB:=n1_;have HK:=n2_;clear n0_ n1_ n2_;clear hg hw hp_;have p9:0≤(x5_1:Int):=md_;have q9:(x5_1:Int)<((x0_1.length:Int):Int):=md_;obtain ⟨ce9,hcl9,hM9,hcc9,hfr9⟩:=Kd.R_elem HO_0.out z82 (x5_1:Int) p9 q9;obtain rfl:=k82_openM hM9;have hx9_0:w20.cell? ⟨go5,(x5_1:Int).toNat*6,none⟩=some (.int .i64 ((zb_ y478 x5_1).f0)):=hcc9 0 _ rfl;have hx9_1:w20.cell? ⟨go5,(x5_1:Int).toNat*6+1,none⟩=some (.int .i64 ((zb_ y478 x5_1).f1)):=hcc9 1 _ rfl;have hx9_2:w20.cell? ⟨go5,(x5_1:Int).toNat*6+2,none⟩=some (.int .i64 ((zb_ y478 x5_1).f2)):=hcc9 2 _ rfl;have hx9_3:w20.cell? ⟨go5,(x5_1:Int).toNat*6+3,none⟩=some (.int .i64 ((zb_ y478 x5_1).f3.f0)):=hcc9 3 _ rfl;have hx9_4:w20.cell? ⟨go5,(x5_1:Int).toNat*6+4,none⟩=some (.int .i64 ((zb_ y478 x5_1).f3.f1)):=hcc9 4 _ rfl;have hx9_5:w20.cell? ⟨go5,(x5_1:Int).toNat*6+5,none⟩=some (.string ((zb_ y478 x5_1).f3.f2)):=hcc9 5 _ rfl;have hf9_0:w20.frozen? ⟨go5,(x5_1:Int).toNat*6,none⟩=false:=hfr9 0;have hf9_1:w20.frozen? ⟨go5,(x5_1:Int).toNat*6+1,none⟩=false:=hfr9 1;have hf9_2:w20.frozen? ⟨go5,(x5_1:Int).toNat*6+2,none⟩=false:=hfr9 2;have hf9_3:w20.frozen? ⟨go5,(x5_1:Int).toNat*6+3,none⟩=false:=hfr9 3;have hf9_4:w20.frozen? ⟨go5,(x5_1:Int).toNat*6+4,none⟩=false:=hfr9 4;have hf9_5:w20.frozen? ⟨go5,(x5_1:Int).toNat*6+5,none⟩=false:=hfr9 5;clear hcl9 hcc9 hfr9;(try clear hM9);replace p9:=eq_true p9;replace q9:=eq_true q9;have HX21:=a_ (show Kd.R k82 82 w20 w0.heap.size (fun k_=>(P0_ k_∨w.heap.size≤k_)) (.slice (some ⟨go5,0,none⟩) x0_1.length co12) y478 from (mo_ HO_0.out));obtain ⟨ce21,hcl21,hM21,hcc21,hfr21⟩:=Kd.R_elem HX21.out z82 (x5_1:Int) (md_) (by have h_:(x5_1:Int)<((x0_1.length:Int):Int):=md_;first|exact h_|(have e_:=(Kd.yb_ HO_0.out).1;omega)|simpa using h_);obtain rfl:=k82_openM hM21;have HP21:=Kd.R_seg HX21.out (x5_1:Int) (md_) (by have h_:(x5_1:Int)<((x0_1.length:Int):Int):=md_;first|exact h_|(have e_:=(Kd.yb_ HO_0.out).1;omega)|simpa using h_) (seg:=[.int .i64 (wrap64 ((wrap64 ((wrap64 ((wrap64 (x1_1+1))+1))+1))+1))]) (j:=4) hcl21 hcc21 (show 5≤6 from by decide) (x':=(⟨(zb_ y478 x5_1).f0,(zb_ y478 x5_1).f1,(zb_ y478 x5_1).f2,(⟨(zb_ y478 x5_1).f3.f0,wrap64 ((wrap64 ((wrap64 ((wrap64 (x1_1+1))+1))+1))+1),(zb_ y478 x5_1).f3.f2⟩:S80)⟩:S82)) (k82_mkM _ _ _ (⟨(zb_ y478 x5_1).f0,(zb_ y478 x5_1).f1,(zb_ y478 x5_1).f2,(⟨(zb_ y478 x5_1).f3.f0,wrap64 ((wrap64 ((wrap64 ((wrap64 (x1_1+1))+1))+1))+1),(zb_ y478 x5_1).f3.f2⟩:S80)⟩:S82) ) (fun _ hk=>hk);have hx21_4:=hcc21 4 _ rfl;(try simp only [show (k82).sz=6 from rfl,Nat.mul_one,Nat.add_zero] at hx21_4);have hf21_4:=hfr21 4;(try simp only [show (k82).sz=6 from rfl,Nat.mul_one,Nat.add_zero] at hf21_4);clear hcl21 hcc21 hfr21;(try clear hM21))|((with_reducible refine gate_store (t:=2) (p:=46) rfl ?_);refine store_event (t:=2) (p:=46) (v:=?vo_w22) (w1:=(w20.setCell ⟨go5,(x5_1:Int).toNat*6+4,none⟩ (.int .i64 (wrap64 ((wrap64 ((wrap64 ((wrap64 (x1_1+1))+1))+1))+1))))) ?hg ?ho ?hn ?hr ?_;(case ho=>rfl);(case hg=>rfl);(case hn=>rfl);(case hr=>first|(go_simp;done)|(go_simp;rfl));intro wx hw;have hg:w20.grownBy wx (some go5):=(by rw [hw];exact HP21.2);have hp_:Kd.R k82 82 wx w0.heap.size (fun k_=>(P0_ k_∨w.heap.size≤k_)) (.slice (some ⟨go5,0,none⟩) x0_1.length co12) y479:=(by rw [hw,Ny479.out];exact HP21.1);clear HP21;have n0_:=a_ (hp_);have n1_:=a_ ((by rw [hw];exact zu_ (HB.out) GB5.out:Below w0.heap.size w0 wx));have n2_:=a_ (Kept.of_grown (S:=(fun k_=>P0_ k_)) hg (by repeat (first|(with_reducible first|exact HK.out|apply Kept.alloc|apply Kept.drewN|apply Kept.drew)|exact HK.out)) (fun k_ e_=>(HO_0.out.1 k_ e_)));clear HO_0;clear HB;clear HK;have HO_0:=n0_;have HB:=n1_;have HK:=n2_;clear n0_ n1_ n2_;clear hg hw hp_)|((with_reducible refine zg_ (f:=48) rfl ?_);refine xf_ (some 52) rfl rfl Tryz.func48 (by kernel_rfl) rfl #[.int .i64 (wrap64 ((wrap64 ((wrap64 ((wrap64 ((wrap64 (x1_1+1))+1))+1))+1))+1))] rfl mw_ ?_;(with_reducible refine (zi_.calls k1 (wrap64 ((wrap64 ((wrap64 ((wrap64 ((wrap64 (x1_1+1))+1))+1))+1))+1)) t480 _ A10.out).mono ?_);rintro e w23 ⟨rfl,hb⟩;refine ⟨_,rfl,?_⟩;replace HO_0:=ro_ HO_0 hb;replace HK:=a_ (Kept.below (S:=(fun k_=>P0_ k_)) (by repeat (first|(with_reducible first|exact HK.out|apply Kept.alloc|apply Kept.drewN|apply Kept.drew)|exact HK.out)) hb);replace HB:=ms_ HB hb;(try clear hb);have p11:0≤(x5_1:Int):=md_;have q11:(x5_1:Int)<((x0_1.length:Int):Int):=md_;obtain ⟨ce11,hcl11,hM11,hcc11,hfr11⟩:=Kd.R_elem HO_0.out z82 (x5_1:Int) p11 q11;obtain rfl:=k82_openM hM11;have hx11_0:w23.cell? ⟨go5,(x5_1:Int).toNat*6,none⟩=some (.int .i64 ((zb_ y479 x5_1).f0)):=hcc11 0 _ rfl;have hx11_1:w23.cell? ⟨go5,(x5_1:Int).toNat*6+1,none⟩=some (.int .i64 ((zb_ y479 x5_1).f1)):=hcc11 1 _ rfl;have hx11_2:w23.cell? ⟨go5,(x5_1:Int).toNat*6+2,none⟩=some (.int .i64 ((zb_ y479 x5_1).f2)):=hcc11 2 _ rfl;have hx11_3:w23.cell? ⟨go5,(x5_1:Int).toNat*6+3,none⟩=some (.int .i64 ((zb_ y479 x5_1).f3.f0)):=hcc11 3 _ rfl;have hx11_4:w23.cell? ⟨go5,(x5_1:Int).toNat*6+4,none⟩=some (.int .i64 ((zb_ y479 x5_1).f3.f1)):=hcc11 4 _ rfl;have hx11_5:w23.cell? ⟨go5,(x5_1:Int).toNat*6+5,none⟩=some (.string ((zb_ y479 x5_1).f3.f2)):=hcc11 5 _ rfl;have hf11_0:w23.frozen? ⟨go5,(x5_1:Int).toNat*6,none⟩=false:=hfr11 0;have hf11_1:w23.frozen? ⟨go5,(x5_1:Int).toNat*6+1,none⟩=false:=hfr11 1;have hf11_2:w23.frozen? ⟨go5,(x5_1:Int).toNat*6+2,none⟩=false:=hfr11 2;have hf11_3:w23.frozen? ⟨go5,(x5_1:Int).toNat*6+3,none⟩=false:=hfr11 3;have hf11_4:w23.frozen? ⟨go5,(x5_1:Int).toNat*6+4,none⟩=false:=hfr11 4;have hf11_5:w23.frozen? ⟨go5,(x5_1:Int).toNat*6+5,none⟩=false:=hfr11 5;clear hcl11 hcc11 hfr11;(try clear hM11);replace p11:=eq_true p11;replace q11:=eq_true q11;have HX24:=a_ (show Kd.R k82 82 w23 w0.heap.size (fun k_=>(P0_ k_∨w.heap.size≤k_)) (.slice (some ⟨go5,0,none⟩) x0_1.length co12) y479 from (mo_ HO_0.out));obtain ⟨ce24,hcl24,hM24,hcc24,hfr24⟩:=Kd.R_elem HX24.out z82 (x5_1:Int) (md_) (by have h_:(x5_1:Int)<((x0_1.length:Int):Int):=md_;first|exact h_|(have e_:=(Kd.yb_ HO_0.out).1;omega)|simpa using h_);obtain rfl:=k82_openM hM24;have HP24:=Kd.R_seg HX24.out (x5_1:Int) (md_) (by have h_:(x5_1:Int)<((x0_1.length:Int):Int):=md_;first|exact h_|(have e_:=(Kd.yb_ HO_0.out).1;omega)|simpa using h_) (seg:=[.string t480]) (j:=5) hcl24 hcc24 (show 6≤6 from by decide) (x':=(⟨(zb_ y479 x5_1).f0,(zb_ y479 x5_1).f1,(zb_ y479 x5_1).f2,(⟨(zb_ y479 x5_1).f3.f0,(zb_ y479 x5_1).f3.f1,t480⟩:S80)⟩:S82)) (k82_mkM _ _ _ (⟨(zb_ y479 x5_1).f0,(zb_ y479 x5_1).f1,(zb_ y479 x5_1).f2,(⟨(zb_ y479 x5_1).f3.f0,(zb_ y479 x5_1).f3.f1,t480⟩:S80)⟩:S82) ) (fun _ hk=>hk);have hx24_5:=hcc24 5 _ rfl;(try simp only [show (k82).sz=6 from rfl,Nat.mul_one,Nat.add_zero] at hx24_5);have hf24_5:=hfr24 5;(try simp only [show (k82).sz=6 from rfl,Nat.mul_one,Nat.add_zero] at hf24_5);clear hcl24 hcc24 hfr24;(try clear hM24))|((with_reducible refine gate_store (t:=9) (p:=55) rfl ?_);refine store_event (t:=9) (p:=55) (v:=?vo_w25) (w1:=(w23.setCell ⟨go5,(x5_1:Int).toNat*6+5,none⟩ (.string t480))) ?hg ?ho ?hn ?hr ?_;(case ho=>rfl);(case hg=>rfl);(case hn=>rfl);(case hr=>first|(go_simp;done)|(go_simp;rfl));intro wx hw;have hg:w23.grownBy wx (some go5):=(by rw [hw];exact HP24.2);have hp_:Kd.R k82 82 wx w0.heap.size (fun k_=>(P0_ k_∨w.heap.size≤k_)) (.slice (some ⟨go5,0,none⟩) x0_1.length co12) y481:=(by rw [hw,Ny481.out];exact HP24.1);clear HP24;have n0_:=a_ (hp_);have n1_:=a_ ((by rw [hw];exact zu_ (HB.out) GB5.out:Below w0.heap.size w0 wx));have n2_:=a_ (Kept.of_grown (S:=(fun k_=>P0_ k_)) hg (by repeat (first|(with_reducible first|exact HK.out|apply Kept.alloc|apply Kept.drewN|apply Kept.drew)|exact HK.out)) (fun k_ e_=>(HO_0.out.1 k_ e_)));clear HO_0;clear HB;clear HK;have HO_0:=n0_;have HB:=n1_;have HK:=n2_;clear n0_ n1_ n2_;clear hg hw hp_))
  go_roundg k1
  case measure=>
   have:=HK1.out
   omega
  case rel=>exact ⟨(y481),(wrap64 ((wrap64 ((wrap64 ((wrap64 ((wrap64 ((wrap64 (x1_1+1))+1))+1))+1))+1))+1)),(wrap64 (x5_1+1)),mq_,mq_,H',⟨by have:=HK1.out;omega⟩,⟨mo_ HO_0.out⟩,⟨by repeat (first|(with_reducible first|exact HK.out|apply Kept.alloc|apply Kept.drewN|apply Kept.drew)|exact HK.out)⟩,⟨mb_ HB⟩⟩
 ·rw [if_neg c3] at H;have c3b0:=cf_ c3;clear c3;simp only [Option.some.injEq,Prod.mk.injEq] at H;obtain ⟨rfl,rfl⟩:=H;obtain ⟨Ao26,co26,eo26⟩:=Kd.yv_ HO_0.out;subst eo26;go_wp2;go_ret;exact ⟨me_,mo_ HO_0.out,mb_ HB,by repeat (first|(with_reducible first|exact HK.out|apply Kept.alloc|apply Kept.drewN|apply Kept.drew)|exact HK.out)⟩
end Go.Proofs.YtahambloheoebaaGreatDoor.P
namespace Go.Proofs.YtahambloheoebaaGreatDoorX
open Go.RowKit Go.Proofs.YtahambloheoebaaGreatDoorW.PrintWords
theorem Ev.ifT {α : Type} {c:Prop} [Decidable c] {f g:Nat→Option α} {r : α} (h:c) (k:Ev f r):Ev (fun n=>if c then f n else g n) r:=by
 obtain ⟨K,k⟩:=k;exact ⟨K,fun n hn=>(if_pos h).trans (k n hn)⟩
theorem Ev.ifF {α : Type} {c:Prop} [Decidable c] {f g:Nat→Option α} {r : α} (h:¬c) (k:Ev g r):Ev (fun n=>if c then f n else g n) r:=by
 obtain ⟨K,k⟩:=k;exact ⟨K,fun n hn=>(if_neg h).trans (k n hn)⟩
theorem Ev.ite {α : Type} {c:Prop} [Decidable c] {f g:Nat→Option α} {r : α} (h1:c→Ev f r) (h2:¬c→Ev g r):Ev (fun n=>if c then f n else g n) r:=by
 by_cases h:c
 ·exact Ev.ifT h (h1 h)
 ·exact Ev.ifF h (h2 h)
theorem Ev.bindE {α β : Type} {g:Option α} {f:Nat→α→Option β} {a : α} {r : β} (h:g=some a) (k:Ev (fun n=>f n a) r):Ev (fun n=>g.bind (f n)) r:=by
 subst h;exact k
theorem Ev.as {α : Type} {g:Nat→Option α} {r r' : α} (h:Ev g r) (e:r=r'):Ev g r':=e▸h
theorem rd_mid {α : Type} (a:List α) (x : α) (b:List α) (z : α):(a++x::b).getD a.length z=x:=by
 rw [List.getD_eq_getElem?_getD,List.getElem?_append_right (Nat.le_refl _),Nat.sub_self];rfl
theorem set_mid {α : Type} (a:List α) (x y : α) (b:List α):(a++x::b).set a.length y=a++y::b:=by
 rw [List.set_append_right _ _ (Nat.le_refl _),Nat.sub_self];rfl
theorem len_mid {α : Type} (a:List α) (x : α) (b:List α):(a++x::b).length=a.length+(b.length+1):=by
 rw [List.length_append,List.length_cons]
def mkL {α : Type} (mk:Int→α→α) (cnt : α→Nat):Int→List α→List α
 | _,[]=>[]
 | a,x::xs=>mk a x::mkL mk cnt (a+cnt x) xs
theorem mkL_length {α : Type} (mk:Int→α→α) (cnt : α→Nat):∀(a:Int) (xs:List α),(mkL mk cnt a xs).length=xs.length
 | _,[]=>rfl
 | a,x::xs=>by rw [mkL,List.length_cons,List.length_cons,mkL_length mk cnt _ xs]
def cntL {α : Type} (cnt : α→Nat) (xs:List α):Nat:=(xs.map cnt).sum
theorem cntL_cons {α : Type} (cnt : α→Nat) (x : α) (xs:List α):cntL cnt (x::xs)=cnt x+cntL cnt xs:=by simp [cntL]
theorem cntL_const {α : Type} (c:Nat) (xs:List α):cntL (fun _=>c) xs=c * xs.length:=by
 induction xs with
 | nil=>rfl
 | cons x xs ih=>rw [cntL_cons,ih,List.length_cons,Nat.mul_succ];omega
theorem mark_loop {α : Type} (mk:Int→α→α) (cnt : α→Nat) (L:Nat→List α→Int→Int→Option (Int×List α))
  (hstep:∀(d:List α) (x : α) (t:List α) (a:Int) (r:Int×List α),(d++x::t).length≤9223372036854775807→0≤a→a+cnt x≤4611686018427387904→Ev (fun k=>L k (d++mk a x::t) (a+cnt x) ((d.length+1:Nat):Int)) r→Ev (fun k=>L k (d++x::t) a (d.length:Int)) r)
  (hend:∀(d:List α) (a:Int),Ev (fun k=>L k d a (d.length:Int)) (a,d)):
  ∀(xs:List α) (a:Int),xs.length≤9223372036854775807→0≤a→a+cntL cnt xs≤4611686018427387904→Ev (fun k=>L k xs a 0) (a+cntL cnt xs,mkL mk cnt a xs):=by
 have key:∀(t d:List α) (a:Int),(d++t).length≤9223372036854775807→0≤a→a+cntL cnt t≤4611686018427387904→Ev (fun k=>L k (d++t) a (d.length:Int)) (a+cntL cnt t,d++mkL mk cnt a t):=by
  intro t;induction t with
  | nil=>
   intro d a _ _ _;have:=hend d a
   simpa [mkL,cntL] using this
  | cons x t ih=>
   intro d a hl h0 h1;rw [cntL_cons] at h1 ⊢;refine hstep d x t a _ hl h0 (by omega) ?_;have:=ih (d++[mk a x]) (a+cnt x) (by simp at hl ⊢;omega) (by omega) (by omega)
   simp only [List.append_assoc,List.singleton_append,List.length_append,List.length_singleton] at this;rw [mkL];refine Ev.as this ?_;rw [show a+((cnt x+cntL cnt t:Nat):Int)=a+(cnt x:Int)+(cntL cnt t:Int) by omega]
 intro xs a hl h0 h1;have:=key xs [] a (by simpa using hl) h0 h1
 simpa using this
theorem held_loop {α : Type} (mk:Int→α→α) (cnt : α→Nat) (L:Nat→List α→Int→Int→Option Int)
  (hstep:∀(d:List α) (x : α) (t:List α) (a r:Int),(d++mk a x::t).length≤9223372036854775807→0≤a→a+cnt x≤4611686018427387904→Ev (fun k=>L k (d++mk a x::t) (a+cnt x) ((d.length+1:Nat):Int)) r→Ev (fun k=>L k (d++mk a x::t) a (d.length:Int)) r)
  (hend:∀(d:List α) (a:Int),Ev (fun k=>L k d a (d.length:Int)) a):
  ∀(xs:List α) (a:Int),xs.length≤9223372036854775807→0≤a→a+cntL cnt xs≤4611686018427387904→Ev (fun k=>L k (mkL mk cnt a xs) a 0) (a+cntL cnt xs):=by
 have key:∀(t d:List α) (a:Int),(d++t).length≤9223372036854775807→0≤a→a+cntL cnt t≤4611686018427387904→Ev (fun k=>L k (d++mkL mk cnt a t) a (d.length:Int)) (a+cntL cnt t):=by
  intro t;induction t with
  | nil=>
   intro d a _ _ _;have:=hend d a
   simpa [mkL,cntL] using this
  | cons x t ih=>
   intro d a hl h0 h1;rw [cntL_cons] at h1 ⊢;rw [mkL];refine hstep d x _ a _ (by simp [mkL_length] at hl ⊢;omega) h0 (by omega) ?_;have:=ih (d++[mk a x]) (a+cnt x) (by simp at hl ⊢;omega) (by omega) (by omega)
   simp only [List.append_assoc,List.singleton_append,List.length_append,List.length_singleton] at this;refine Ev.as this ?_;omega
 intro xs a hl h0 h1;have:=key xs [] a (by simpa using hl) h0 h1
 simpa using this
end Go.Proofs.YtahambloheoebaaGreatDoorX
namespace Go.Proofs.YtahambloheoebaaGreatDoor.P
open Go.Proofs.YtahambloheoebaaGreatDoorX
open Go.RowKit Go.Proofs.YtahambloheoebaaGreatDoorW.PrintWords Go.Proofs.YtahambloheoebaaGreatDoorW.PrintLast Go.Proofs.YtahambloheoebaaGreatDoorW.PrintMore
attribute [local go_sem] ww_ wx_ max_two min_two wc_ wb_ wu_ wv_
def yx_.r (k:Nat):List S50→Int→Option (Int×List S50)
 | [],a=>some (a,[])
 | x::xs,a=>(zi_.f k a).bind fun t0=>(zs_.f k x.f2 (wrap64 ((wrap64 (a+1))+1))).bind fun y=>(yx_.r k xs y.1).bind fun z=>some (z.1,(⟨t0,(wrap64 (a+1)),y.2⟩:S50)::z.2)
def yx_.f (k:Nat) (l0:List S50) (a1:Int):Option (Int×List S50):=yx_.r k l0 a1
theorem yx_.mono_r:∀xs a k,LeO (yx_.r k xs a) (yx_.r (k+1) xs a)
 | [],a,k=>LeO.refl _
 | x::xs,a,k=>LeO.bind (zi_.mono _ k) (fun t0=>LeO.bind (zs_.mono _ _ k) (fun y=>LeO.bind (yx_.mono_r xs _ k) (fun z=>LeO.refl _)))
theorem yx_.mono:∀a0 a1 k,LeO (yx_.f k a0 a1) (yx_.f (k+1) a0 a1):=yx_.mono_r
open Go.Proofs.YtahambloheoebaaGreatDoorX in
set_option maxHeartbeats 8000000 in
set_option maxRecDepth 100000 in
theorem yx_.calls (k:Nat) (P0_:Nat→Prop) (u9000_:Value) (l0:List (S50)) (a1:Int) (r1:Int) (r2:List (S50)) (w0 w:World) (hB:Below w0.heap.size w0 w) (ho0:Kd.S k50 50 w w0.heap.size P0_ u9000_ l0) (h:yx_.f k l0 a1=some (r1,r2)):
  Calls Tryz.prog 55 #[u9000_,.int .i64 a1] w fun e w'=>e=.returned (.int .i64 r1)∧Kd.S k50 50 w' w0.heap.size (fun k_=>(P0_ k_∨w.heap.size≤k_)) u9000_ r2∧Below w0.heap.size w0 w'∧Kept w w' (fun k_=>P0_ k_):=by
 have HS:=a_ ho0;have HB:=a_ hB;have HH:z0_ (yx_.r k l0 a1=some (r1,r2)):=⟨h⟩
 obtain ⟨A,c,e0,hlc,hC⟩:=Kd.S_reads ho0;subst e0;have hlm:l0.length≤9223372036854775807:=hC.2.1
 have hu0:=Tryz.underlying50;clear ho0 hB h hlc hC;go_enter Tryz.func55,Tryz.ntmps55;go_wp2;go_loopg [1,5] l0.length (fun gg v1 v5 wr=>∃(d t:List (S50)) (a:Int) (z:List (S50)),d.length+t.length=l0.length∧l0.length-d.length≤gg∧v1=.int .i64 a∧v5=.int .i64 (d.length:Int)∧z0_ (yx_.r k t a=some (r1,z))∧z0_ (d++z=r2)∧z0_ (Kd.S k50 50 wr w0.heap.size P0_ (.slice A l0.length c) (d++t))∧z0_ (Below w0.heap.size w0 wr)∧z0_ (Kept w wr (fun k_=>P0_ k_)))
 case atStart=>exact ⟨[],l0,a1,r2,by simp,by simp,rfl,rfl,HH,⟨rfl⟩,HS,HB,⟨Kept.refl _ _⟩⟩
 obtain ⟨d,t,a,z,hdt,hgg,rfl,rfl,HR,HZ,HO,HB1,HK⟩:=hrel;cases t with
 | nil=>
  have hdl:d.length=l0.length:=by simpa using hdt
  have hnl:¬((d.length:Int)<(l0.length:Int)):=by omega
  go_wp2;go_ret;have e1:=Option.some.inj HR.out;injection e1 with e1 e2
  subst e1;refine ⟨rfl,?_,HB1.out,HK.out⟩;have:=HO.out
  rw [←HZ.out,←e2];exact Kd.xs_ this (fun _ hk=>.inl hk)
 | cons x t=>
  have hdl:d.length<l0.length:=by rw [List.length_cons] at hdt;omega
  have hz:(d.length:Int)<(l0.length:Int):=by omega
  have hz0:(0:Int)≤(d.length:Int):=by omega
  have hnat:((d.length:Int)).toNat=d.length:=by omega
  have HRR:=HR.out;unfold yx_.r at HRR
  obtain ⟨t0,h0,Hb0⟩:=Option.bind_eq_some_iff.1 HRR;obtain ⟨y2,hy,Hy⟩:=Option.bind_eq_some_iff.1 Hb0;obtain ⟨zz,h3,Hc⟩:=Option.bind_eq_some_iff.1 Hy;have Hd:=Option.some.inj Hc;injection Hd with H4 H5
  have T0:=a_ h0;have A2:=a_ hy;have A3:=a_ h3;have A4:=a_ H4;have A5:=a_ H5;clear h0 hy h3 H4 H5 HR HRR Hb0 Hy Hc;have hsl:(d++x::t).length=l0.length:=by simp at hdt ⊢;omega
  have HL:=a_ hsl;obtain ⟨g,cap,eg,hgb,hgl,_⟩:=Kd.S_form HO.out (by omega);rw [hsl] at eg;injection eg with eA _ ec
  subst eA;subst ec;have HP:z0_ (P0_ g):=⟨(Kd.S_R HO.out).1 g (by simp [Value.ownBlock])⟩
  have HO1:=HO;have HK1:=HK;clear hsl hgl HO HK
  go_wp2_with (first
   | (go_at_call 48;refine (zi_.calls k a _ _ T0.out).mono ?_;rintro e w1 ⟨rfl,hd⟩;have HO2:=a_ (Kd.yr_ HO1.out hd);have HB2:=a_ (y7_ HB1.out hd);have HK2:=a_ (Kept.below HK1.out hd);clear hd HO1 HB1 HK1)
   | ((with_reducible refine gate_store (t:=9) (p:=17) rfl ?_);(obtain ⟨oki,cc,_,hM,_,_,hoki,hH⟩:=Kd.S_elem HO2.out z50 (d.length:Int) (by omega) (by omega));rw [Int.toNat_natCast,rd_mid] at hM;(obtain ⟨vs,ec,hI⟩:=k50_openM hM);subst ec;refine Kd.H_store k50 w0.heap.size rfl rfl 9 (.tmp 17) (.tmp 15) rfl 50 (d.length:Int) 0 (d++x::t) (⟨t0,x.f1,x.f2⟩:S50) (.string t0) [.string t0] [.string x.f0,.int .i64 x.f1,vs] P0_ oki oki rfl (by rw [Int.toNat_natCast];rfl) rfl rfl (by kernel_rfl) (by intro q hq;simp at hq;subst hq;rfl) hH (by omega) (by omega) (show (0:Nat)+1≤3 by decide) (k50_mkM _ _ _ (⟨t0,x.f1,x.f2⟩:S50) hI) (fun _ h=>h) HB2.out ?_;intro w2 ho hb hg;rw [Int.toNat_natCast,set_mid] at ho;have HO3:=a_ ho;have HB3:=a_ hb;have HK3:=a_ (Kept.of_grown hg HK2.out (by intro k_ e;injection e with e;subst e;exact .inl HP.out));clear ho hb hg hH hI hM hoki HO2 HB2 HK2)
   | ((with_reducible refine gate_store (t:=3) (p:=24) rfl ?_);(obtain ⟨oki,cc,_,hM,_,_,hoki,hH⟩:=Kd.S_elem HO3.out z50 (d.length:Int) (by omega) (by omega));rw [Int.toNat_natCast,rd_mid] at hM;(obtain ⟨vs,ec,hI⟩:=k50_openM hM);subst ec;refine Kd.H_store k50 w0.heap.size rfl rfl 3 (.tmp 24) (.tmp 22) rfl 50 (d.length:Int) 1 (d++(⟨t0,x.f1,x.f2⟩:S50)::t) (⟨t0,(wrap64 (a+1)),x.f2⟩:S50) (.int .i64 (wrap64 (a+1))) [.int .i64 (wrap64 (a+1))] [.string t0,.int .i64 x.f1,vs] P0_ oki oki rfl (by rw [Int.toNat_natCast];rfl) rfl rfl (by kernel_rfl) (by intro q hq;simp at hq;subst hq;rfl) hH (by omega) (by omega) (show (1:Nat)+1≤3 by decide) (k50_mkM _ _ _ (⟨t0,(wrap64 (a+1)),x.f2⟩:S50) hI) (fun _ h=>h) HB3.out ?_;intro w3 ho hb hg;rw [Int.toNat_natCast,set_mid] at ho;have HO4:=a_ ho;have HB4:=a_ hb;have HK4:=a_ (Kept.of_grown hg HK3.out (by intro k_ e;injection e with e;subst e;exact .inl HP.out));clear ho hb hg hH hI hM hoki HO3 HB3 HK3;(obtain ⟨oki,cc,_,hM,hcc,hoki,hH⟩:=Kd.S_lend HO4.out z50 (d.length:Int) (by omega) (by omega));rw [Int.toNat_natCast,rd_mid] at hM;(obtain ⟨vs,ec,hI⟩:=k50_openM hM);subst ec;have hx2:=hcc 2 _ rfl;rw [Int.toNat_natCast] at hx2;have hx2:w3.cell? ⟨g,d.length*3+2,none⟩=some vs:=hx2;have HH:=a_ hH;have HI:=a_ hI;clear hH hI hM hcc hoki)
   | (go_at_call 98;refine (zs_.calls k oki vs x.f2 (wrap64 ((wrap64 (a+1))+1)) y2.1 y2.2 w0 _ HB4.out HI.out A2.out).mono ?_;rintro e w4 ⟨rfl,hr,hb,hk⟩;have hr2:=Kd.yk_ (Kd.R_tight rfl hr) (fun k_ hk_=>HI.out.1 k_ hk_.symm);have hs:=Kd.H_back (Kd.H_kept HH.out hk (fun k_ _ h_=>h_)) (k50_mkM _ _ _ (⟨t0,(wrap64 (a+1)),y2.2⟩:S50) hr2) (fun _ h=>h);rw [Int.toNat_natCast,set_mid] at hs;have HO5:=a_ hs;have HB5:=a_ hb;have HK5:=a_ (HK4.out.then_ hk (fun k_ hk_=>.inl (HH.out.1 k_ hk_)));clear hr hr2 hs hb hk HO4 HB4 HK4))
  go_roundg (l0.length-(d.length+1))
  case measure=>omega
  case rel=>exact ⟨d++[(⟨t0,(wrap64 (a+1)),y2.2⟩:S50)],t,y2.1,zz.2,by simp at hdt ⊢;omega,by simp,rfl,by rw [List.length_append,List.length_singleton];go_num,⟨by rw [A3.out,←A4.out]⟩,⟨by rw [←HZ.out,←A5.out];simp⟩,⟨by rw [List.append_assoc];exact HO5.out⟩,HB5,HK5⟩
def w1_.l0:Nat→List (S161)→Int→Int→Option (Int×(List (S161)))
 | 0,_,_,_=>none
 | k+1,x0,x1,x5=>if x5<(x0.length:Int) then (if 0≤x5 then ((some (x0.set (x5:Int).toNat (⟨x1,(z2_ x0 x5).f1,(z2_ x0 x5).f2,(⟨(z2_ x0 x5).f3.f0,(z2_ x0 x5).f3.f1,(z2_ x0 x5).f3.f2⟩:S80),(z2_ x0 x5).f4,(z2_ x0 x5).f5⟩:S161):List (S161))).bind fun y305=>((some (y305.set (x5:Int).toNat (⟨(z2_ y305 x5).f0,(wrap64 (x1+1)) % 256,(z2_ y305 x5).f2,(⟨(z2_ y305 x5).f3.f0,(z2_ y305 x5).f3.f1,(z2_ y305 x5).f3.f2⟩:S80),(z2_ y305 x5).f4,(z2_ y305 x5).f5⟩:S161):List (S161))).bind fun y306=>((zi_.f k (wrap64 ((wrap64 (x1+1))+1))).bind fun t307=>((some (y306.set (x5:Int).toNat (⟨(z2_ y306 x5).f0,(z2_ y306 x5).f1,t307,(⟨(z2_ y306 x5).f3.f0,(z2_ y306 x5).f3.f1,(z2_ y306 x5).f3.f2⟩:S80),(z2_ y306 x5).f4,(z2_ y306 x5).f5⟩:S161):List (S161))).bind fun y308=>((some (y308.set (x5:Int).toNat (⟨(z2_ y308 x5).f0,(z2_ y308 x5).f1,(z2_ y308 x5).f2,(⟨wrap64 ((wrap64 ((wrap64 (x1+1))+1))+1),(z2_ y308 x5).f3.f1,(z2_ y308 x5).f3.f2⟩:S80),(z2_ y308 x5).f4,(z2_ y308 x5).f5⟩:S161):List (S161))).bind fun y309=>((some (y309.set (x5:Int).toNat (⟨(z2_ y309 x5).f0,(z2_ y309 x5).f1,(z2_ y309 x5).f2,(⟨(z2_ y309 x5).f3.f0,wrap64 ((wrap64 ((wrap64 ((wrap64 (x1+1))+1))+1))+1),(z2_ y309 x5).f3.f2⟩:S80),(z2_ y309 x5).f4,(z2_ y309 x5).f5⟩:S161):List (S161))).bind fun y310=>((zi_.f k (wrap64 ((wrap64 ((wrap64 ((wrap64 ((wrap64 (x1+1))+1))+1))+1))+1))).bind fun t311=>((some (y310.set (x5:Int).toNat (⟨(z2_ y310 x5).f0,(z2_ y310 x5).f1,(z2_ y310 x5).f2,(⟨(z2_ y310 x5).f3.f0,(z2_ y310 x5).f3.f1,t311⟩:S80),(z2_ y310 x5).f4,(z2_ y310 x5).f5⟩:S161):List (S161))).bind fun y312=>((some (y312.set (x5:Int).toNat (⟨(z2_ y312 x5).f0,(z2_ y312 x5).f1,(z2_ y312 x5).f2,(⟨(z2_ y312 x5).f3.f0,(z2_ y312 x5).f3.f1,(z2_ y312 x5).f3.f2⟩:S80),wrap64 ((wrap64 ((wrap64 ((wrap64 ((wrap64 ((wrap64 (x1+1))+1))+1))+1))+1))+1),(z2_ y312 x5).f5⟩:S161):List (S161))).bind fun y313=>(w1_.l0 k (y313.set (x5:Int).toNat (⟨(z2_ y313 x5).f0,(z2_ y313 x5).f1,(z2_ y313 x5).f2,(⟨(z2_ y313 x5).f3.f0,(z2_ y313 x5).f3.f1,(z2_ y313 x5).f3.f2⟩:S80),(z2_ y313 x5).f4,wrap64 ((wrap64 ((wrap64 ((wrap64 ((wrap64 ((wrap64 ((wrap64 (x1+1))+1))+1))+1))+1))+1))+1)⟩:S161)) (wrap64 ((wrap64 ((wrap64 ((wrap64 ((wrap64 ((wrap64 ((wrap64 ((wrap64 (x1+1))+1))+1))+1))+1))+1))+1))+1)) (wrap64 (x5+1)))))))))))) else (none)) else (some (x1,x0))
def w1_.f (k:Nat) (l0:List (S161)) (a1:Int):Option (Int×(List (S161))):=w1_.l0 k l0 a1 0
theorem w1_.y6_:∀k,(∀y0 y1 y2,LeO (w1_.l0 k y0 y1 y2) (w1_.l0 (k+1) y0 y1 y2))
 | 0=>fun _ _ _ r h=>by simp [w1_.l0] at h
 | k+1=>by
  have ih0:=w1_.y6_ k
  ·intro y0 y1 y2;unfold w1_.l0
   repeat' with_reducible first|apply ih0|apply zi_.mono|apply LeO.refl|apply LeO.none|refine LeO.ite ?_ ?_|refine LeO.bind ?_ (fun _=>?_)
theorem w1_.mono:∀a0 a1 k,LeO (w1_.f k a0 a1) (w1_.f (k+1) a0 a1):=by
 intro a0 a1 k;have ih0:=w1_.y6_ k;unfold w1_.f
 repeat' with_reducible first|apply ih0|apply zi_.mono|apply LeO.refl|apply LeO.none|refine LeO.ite ?_ ?_|refine LeO.bind ?_ (fun _=>?_)
def yw_.l0:Nat→List Int→Int→Int→Option (Int×List Int)
 | 0,_,_,_=>none
 | k+1,x0,x1,x5=>if x5<(x0.length:Int) then (if 0≤x5 then (yw_.l0 k (x0.set (x5:Int).toNat x1) (wrap64 (x1+1)) (wrap64 (x5+1))) else (none)) else (some (x1,x0))
def yw_.f (k:Nat) (l0:List Int) (a1:Int):Option (Int×List Int):=yw_.l0 k l0 a1 0
theorem yw_.y6_:∀k,(∀y0 y1 y2,LeO (yw_.l0 k y0 y1 y2) (yw_.l0 (k+1) y0 y1 y2))
 | 0=>fun _ _ _ r h=>by simp [yw_.l0] at h
 | k+1=>by
  have ih0:=yw_.y6_ k
  ·intro y0 y1 y2;unfold yw_.l0
   repeat' with_reducible first|apply ih0|apply LeO.refl|apply LeO.none|refine LeO.ite ?_ ?_|refine LeO.bind ?_ (fun _=>?_)
theorem yw_.mono:∀a0 a1 k,LeO (yw_.f k a0 a1) (yw_.f (k+1) a0 a1):=by
 intro a0 a1 k;have ih0:=yw_.y6_ k;unfold yw_.f
 repeat' with_reducible first|apply ih0|apply LeO.refl|apply LeO.none|refine LeO.ite ?_ ?_|refine LeO.bind ?_ (fun _=>?_)
set_option maxHeartbeats 8000000 in
set_option maxRecDepth 100000 in
theorem yw_.calls (k:Nat) (P0_:Nat→Prop) (u9000_:Value) (l0:List Int) (a1:Int) (r1:Int) (r2:List Int) (w0 w:World) (hB:Below w0.heap.size w0 w) (ho0:Kd.R (Kd.int .i64) 3 w w0.heap.size P0_ u9000_ l0) (h:yw_.f k l0 a1=some (r1,r2)):
  Calls Tryz.prog 95 #[u9000_,.int .i64 a1] w fun e w'=>e=.returned (.int .i64 r1)∧Kd.R (Kd.int .i64) 3 w' w0.heap.size (fun k_=>(P0_ k_∨w.heap.size≤k_)) u9000_ r2∧Below w0.heap.size w0 w'∧Kept w w' (fun k_=>P0_ k_):=by
 have HO0:=a_ (show Kd.R (Kd.int .i64) 3 w w0.heap.size (fun k_=>(P0_ k_∨w.heap.size≤k_)) u9000_ l0 from Kd.yk_ ho0 (fun k_ hk=>(.inl hk)));have HK:=a_ (Kept.refl w (fun k_=>P0_ k_));have HW0:=a_ hB.size;have HB:=a_ hB;clear hB;have H:(yw_.l0 k l0 a1 0)=some (r1,r2):=h
 clear h;have H':=a_ H;clear H;go_enter Tryz.func95,Tryz.ntmps95;go_wp2;go_loopg [1,5] k (fun kq v1 v5 w'=>∃(x0_1:List Int) (x1_1:Int) (x5_1:Int),v1=.int .i64 x1_1∧v5=.int .i64 x5_1∧z0_ (yw_.l0 kq x0_1 x1_1 x5_1=some (r1,r2))∧z0_ (kq≤k)∧z0_ (Kd.R (Kd.int .i64) 3 w' w0.heap.size (fun k_=>(P0_ k_∨w.heap.size≤k_)) u9000_ x0_1)∧z0_ (Kept w w' (fun k_=>P0_ k_))∧z0_ (Below w0.heap.size w0 w'))
 case atStart=>exact ⟨(l0),(a1),(0),mq_,mq_,H',⟨Nat.le_refl _⟩,⟨mo_ HO0.out⟩,⟨by repeat (first|(with_reducible first|exact HK.out|apply Kept.alloc|apply Kept.drewN|apply Kept.drew)|exact HK.out)⟩,⟨mb_ HB⟩⟩
 clear H';obtain ⟨x0_1,x1_1,x5_1,rfl,rfl,HA,HK1,HO_0,HK,HB⟩:=hrel;obtain _|k1:=gk
 ·exact absurd HA.out (by simp [yw_.l0])
 have H:=HA.out;clear HA;simp only [yw_.l0] at H;by_cases c3:x5_1<(x0_1.length:Int)
 ·rw [if_pos c3] at H;have c3b0:=ct_ c3;clear c3;by_cases c4:0≤x5_1
  case neg=>
   rw [if_neg c4] at H;cases H
  rw [if_pos c4] at H;have c4b0:=ct_ c4;clear c4;obtain ⟨y315,hy315⟩:∃y_:List Int,y_=(x0_1.set (x5_1:Int).toNat x1_1):=⟨_,rfl⟩;rw [←hy315] at H;(try rw [Option.bind_some] at H);have Ny315:=a_ hy315;clear hy315;have H':=a_ H;clear H;obtain ⟨Ao6,co6,eo6⟩:=Kd.yv_ HO_0.out;subst eo6;have p5:0≤(x5_1:Int):=md_
  have q5:(x5_1:Int)<((x0_1.length:Int):Int):=md_
  obtain ⟨go5,co5,eo5,gb5,gl5,cl5,HG5⟩:=Kd.R_form HO_0.out (by omega);(first|cases eo5|(injection eo5 with ea_ en_ ec_;(first|subst ea_|(injection ea_ with ea_;subst ea_));subst ec_;clear en_));have GB5:=a_ gb5;have GG5:=a_ HG5;clear gb5 gl5 HG5;have HMgo5:=a_ (show (P0_ go5∨w.heap.size≤go5) from (HO_0.out.1 _ rfl));obtain ⟨hx5_0,hf5_0⟩:=Kd.R_celln 0 HO_0.out (x5_1:Int) p5 q5;replace p5:=eq_true p5;replace q5:=eq_true q5;have HP7:=Kd.R_putg HO_0.out (x5_1:Int) x1_1;go_wp2_with (first|((with_reducible refine gate_store (t:=3) (p:=15) rfl ?_);refine store_event (t:=3) (p:=15) (v:=?vo_w8) (w1:=(wr.setCell ⟨go5,(x5_1:Int).toNat,none⟩ (.int .i64 x1_1))) ?hg ?ho ?hn ?hr ?_;(case ho=>rfl);(case hg=>rfl);(case hn=>rfl);(case hr=>first|(go_simp;done)|(go_simp;rfl));intro wx hw;have hg:wr.grownBy wx (some go5):=(by rw [hw];exact HP7.2);have hp_:Kd.R (Kd.int .i64) 3 wx w0.heap.size (fun k_=>(P0_ k_∨w.heap.size≤k_)) (.slice (some ⟨go5,0,none⟩) x0_1.length co6) y315:=(by rw [hw,Ny315.out];exact HP7.1);clear HP7;have n0_:=a_ (hp_);have n1_:=a_ ((by rw [hw];exact zu_ (HB.out) GB5.out:Below w0.heap.size w0 wx));have n2_:=a_ (Kept.of_grown (S:=(fun k_=>P0_ k_)) hg (by repeat (first|(with_reducible first|exact HK.out|apply Kept.alloc|apply Kept.drewN|apply Kept.drew)|exact HK.out)) (fun k_ e_=>(HO_0.out.1 k_ e_)));clear HO_0;clear HB;clear HK;have HO_0:=n0_;have HB:=n1_;have HK:=n2_;clear n0_ n1_ n2_;clear hg hw hp_));go_roundg k1
  case measure=>
   have:=HK1.out
   omega
  case rel=>exact ⟨(y315),(wrap64 (x1_1+1)),(wrap64 (x5_1+1)),mq_,mq_,H',⟨by have:=HK1.out;omega⟩,⟨mo_ HO_0.out⟩,⟨by repeat (first|(with_reducible first|exact HK.out|apply Kept.alloc|apply Kept.drewN|apply Kept.drew)|exact HK.out)⟩,⟨mb_ HB⟩⟩
 ·rw [if_neg c3] at H;have c3b0:=cf_ c3;clear c3;simp only [Option.some.injEq,Prod.mk.injEq] at H;obtain ⟨rfl,rfl⟩:=H;obtain ⟨Ao9,co9,eo9⟩:=Kd.yv_ HO_0.out;subst eo9;go_wp2;go_ret;exact ⟨me_,mo_ HO_0.out,mb_ HB,by repeat (first|(with_reducible first|exact HK.out|apply Kept.alloc|apply Kept.drewN|apply Kept.drew)|exact HK.out)⟩
def x9_.r (k:Nat):List (List Int)→Int→Option (Int×List (List Int))
 | [],a=>some (a,[])
 | x::xs,a=>(yw_.f k x a).bind fun y=>(x9_.r k xs y.1).bind fun z=>some (z.1,y.2::z.2)
def x9_.f (k:Nat) (l0:List (List Int)) (a1:Int):Option (Int×List (List Int)):=x9_.r k l0 a1
theorem x9_.mono_r:∀xs a k,LeO (x9_.r k xs a) (x9_.r (k+1) xs a)
 | [],a,k=>LeO.refl _
 | x::xs,a,k=>LeO.bind (yw_.mono _ _ k) (fun y=>LeO.bind (x9_.mono_r xs _ k) (fun z=>LeO.refl _))
theorem x9_.mono:∀a0 a1 k,LeO (x9_.f k a0 a1) (x9_.f (k+1) a0 a1):=x9_.mono_r
open Go.Proofs.YtahambloheoebaaGreatDoorX in
set_option maxHeartbeats 8000000 in
set_option maxRecDepth 100000 in
theorem x9_.calls (k:Nat) (P0_:Nat→Prop) (u9000_:Value) (l0:List (List Int)) (a1:Int) (r1:Int) (r2:List (List Int)) (w0 w:World) (hB:Below w0.heap.size w0 w) (ho0:Kd.S (Kd.slice 3 (Kd.int .i64)) 43 w w0.heap.size P0_ u9000_ l0) (h:x9_.f k l0 a1=some (r1,r2)):
  Calls Tryz.prog 56 #[u9000_,.int .i64 a1] w fun e w'=>e=.returned (.int .i64 r1)∧Kd.S (Kd.slice 3 (Kd.int .i64)) 43 w' w0.heap.size (fun k_=>(P0_ k_∨w.heap.size≤k_)) u9000_ r2∧Below w0.heap.size w0 w'∧Kept w w' (fun k_=>P0_ k_):=by
 have HS:=a_ ho0;have HB:=a_ hB;have HH:z0_ (x9_.r k l0 a1=some (r1,r2)):=⟨h⟩
 obtain ⟨A,c,e0,hlc,hC⟩:=Kd.S_reads ho0;subst e0;have hlm:l0.length≤9223372036854775807:=hC.2.1
 clear ho0 hB h hlc hC;go_enter Tryz.func56,Tryz.ntmps56;go_wp2;go_loopg [1,5] l0.length (fun gg v1 v5 wr=>∃(d t:List (List Int)) (a:Int) (z:List (List Int)),d.length+t.length=l0.length∧l0.length-d.length≤gg∧v1=.int .i64 a∧v5=.int .i64 (d.length:Int)∧z0_ (x9_.r k t a=some (r1,z))∧z0_ (d++z=r2)∧z0_ (Kd.S (Kd.slice 3 (Kd.int .i64)) 43 wr w0.heap.size P0_ (.slice A l0.length c) (d++t))∧z0_ (Below w0.heap.size w0 wr)∧z0_ (Kept w wr (fun k_=>P0_ k_)))
 case atStart=>exact ⟨[],l0,a1,r2,by simp,by simp,rfl,rfl,HH,⟨rfl⟩,HS,HB,⟨Kept.refl _ _⟩⟩
 obtain ⟨d,t,a,z,hdt,hgg,rfl,rfl,HR,HZ,HO,HB1,HK⟩:=hrel;cases t with
 | nil=>
  have hdl:d.length=l0.length:=by simpa using hdt
  have hnl:¬((d.length:Int)<(l0.length:Int)):=by omega
  go_wp2;go_ret;have e1:=Option.some.inj HR.out;injection e1 with e1 e2
  subst e1;refine ⟨rfl,?_,HB1.out,HK.out⟩;have:=HO.out
  rw [←HZ.out,←e2];exact Kd.xs_ this (fun _ hk=>.inl hk)
 | cons x t=>
  have hdl:d.length<l0.length:=by rw [List.length_cons] at hdt;omega
  have hz:(d.length:Int)<(l0.length:Int):=by omega
  have hz0:(0:Int)≤(d.length:Int):=by omega
  have hnat:((d.length:Int)).toNat=d.length:=by omega
  have HRR:=HR.out;unfold x9_.r at HRR
  obtain ⟨y2,hy,Hy⟩:=Option.bind_eq_some_iff.1 HRR;obtain ⟨zz,h3,Hc⟩:=Option.bind_eq_some_iff.1 Hy;have Hd:=Option.some.inj Hc;injection Hd with H4 H5
  have A2:=a_ hy;have A3:=a_ h3;have A4:=a_ H4;have A5:=a_ H5;clear hy h3 H4 H5 HR HRR Hy Hc;have hsl:(d++x::t).length=l0.length:=by simp at hdt ⊢;omega
  have HL:=a_ hsl;obtain ⟨g,cap,eg,hgb,hgl,_⟩:=Kd.S_form HO.out (by omega);rw [hsl] at eg;injection eg with eA _ ec
  subst eA;subst ec;have HP:z0_ (P0_ g):=⟨(Kd.S_R HO.out).1 g (by simp [Value.ownBlock])⟩
  have HO1:=HO;have HK1:=HK;clear hsl hgl HO HK;obtain ⟨oki,cc,_,hM,hcc,hoki,hH⟩:=Kd.S_lend HO1.out [] (d.length:Int) (by omega) (by omega);rw [Int.toNat_natCast,rd_mid] at hM;obtain ⟨vs,ec,hI⟩:=hM;subst ec;have hx2:=hcc 0 _ rfl;rw [Int.toNat_natCast] at hx2;have hx2:wr.cell? ⟨g,d.length*1+0,none⟩=some vs:=hx2
  rw [Nat.mul_one,Nat.add_zero] at hx2;have HH:=a_ hH;have HI:=a_ hI;clear hH hI hcc hoki;go_wp2_with (go_at_call 95;refine (yw_.calls k oki vs x a y2.1 y2.2 w0 _ HB1.out HI.out A2.out).mono ?_;rintro e w1 ⟨rfl,hr,hb,hk⟩;have hr2:=Kd.yk_ (Kd.R_tight rfl hr) (fun k_ hk_=>HI.out.1 k_ hk_.symm);have hs:=Kd.H_back (Kd.H_kept HH.out hk (fun k_ _ h_=>h_)) (Kd.M_row hr2) (fun _ h=>h);rw [Int.toNat_natCast,set_mid] at hs;have HO2:=a_ hs;have HB2:=a_ hb;have HK2:=a_ (HK1.out.then_ hk (fun k_ hk_=>.inl (HH.out.1 k_ hk_)));clear hr hr2 hs hb hk HO1 HB1 HK1);go_roundg (l0.length-(d.length+1))
  case measure=>omega
  case rel=>exact ⟨d++[y2.2],t,y2.1,zz.2,by simp at hdt ⊢;omega,by simp,rfl,by rw [List.length_append,List.length_singleton];go_num,⟨by rw [A3.out,←A4.out]⟩,⟨by rw [←HZ.out,←A5.out];simp⟩,⟨by rw [List.append_assoc];exact HO2.out⟩,HB2,HK2⟩
def zh_.l0:Nat→List (S82)→Int→Int→Option (Int)
 | 0,_,_,_=>none
 | k+1,x0,x1,x5=>if x5<(x0.length:Int) then (if 0≤x5 then (if ((zb_ x0 x5).f0)=x1 then (if ((zb_ x0 x5).f1)=(wrap64 (x1+1)) then (if ((zb_ x0 x5).f2)=(wrap64 ((wrap64 (x1+1))+1)) then (if ((zb_ x0 x5).f3.f0)=(wrap64 ((wrap64 ((wrap64 (x1+1))+1))+1)) then (if ((zb_ x0 x5).f3.f1)=(wrap64 ((wrap64 ((wrap64 ((wrap64 (x1+1))+1))+1))+1)) then ((zi_.f k (wrap64 ((wrap64 ((wrap64 ((wrap64 ((wrap64 (x1+1))+1))+1))+1))+1))).bind fun t488=>(if ((zb_ x0 x5).f3.f2).toList=t488.toList then (zh_.l0 k x0 (wrap64 ((wrap64 ((wrap64 ((wrap64 ((wrap64 ((wrap64 (x1+1))+1))+1))+1))+1))+1)) (wrap64 (x5+1))) else (some (-1)))) else (some (-1))) else (some (-1))) else (some (-1))) else (some (-1))) else (some (-1))) else (none)) else (some x1)
def zh_.f (k:Nat) (l0:List (S82)) (a1:Int):Option (Int):=zh_.l0 k l0 a1 0
theorem zh_.y6_:∀k,(∀y0 y1 y2,LeO (zh_.l0 k y0 y1 y2) (zh_.l0 (k+1) y0 y1 y2))
 | 0=>fun _ _ _ r h=>by simp [zh_.l0] at h
 | k+1=>by
  have ih0:=zh_.y6_ k
  ·intro y0 y1 y2;unfold zh_.l0
   repeat' with_reducible first|apply ih0|apply zi_.mono|apply LeO.refl|apply LeO.none|refine LeO.ite ?_ ?_|refine LeO.bind ?_ (fun _=>?_)
theorem zh_.mono:∀a0 a1 k,LeO (zh_.f k a0 a1) (zh_.f (k+1) a0 a1):=by
 intro a0 a1 k;have ih0:=zh_.y6_ k;unfold zh_.f
 repeat' with_reducible first|apply ih0|apply zi_.mono|apply LeO.refl|apply LeO.none|refine LeO.ite ?_ ?_|refine LeO.bind ?_ (fun _=>?_)
def zh_.T19:Bool×List (List Nat×List Nat):=(true,[([],[]),([],[]),([0,1],[0,1]),([2],[2]),([3],[3]),([4],[4]),([],[]),([6],[6]),([5,7],[5,7])])
def zh_.B19:List Nat:=[0,0,3,7,15,31,0,64,255]
theorem zh_.tab19:rtab .any (opsOf Tryz.f99 19)=zh_.T19:=by kernel_rfl
theorem zh_.bits19:waitsOk zh_.T19.2 zh_.B19=true:=by kernel_rfl
abbrev b913_0:Array Bool:=#[f_,f_,f_,f_,f_,f_,f_,f_,f_]
abbrev b913_1:Array Bool:=#[t_,f_,f_,f_,f_,f_,f_,f_,f_]
abbrev b913_2:Array Bool:=#[t_,t_,f_,f_,f_,f_,f_,f_,f_]
abbrev b913_3:Array Bool:=#[t_,t_,t_,f_,f_,f_,f_,f_,f_]
abbrev b913_4:Array Bool:=#[t_,t_,t_,t_,f_,f_,f_,f_,f_]
abbrev b913_5:Array Bool:=#[t_,t_,t_,t_,t_,f_,f_,f_,f_]
abbrev b913_6:Array Bool:=#[t_,t_,t_,t_,t_,f_,t_,f_,f_]
abbrev b913_7:Array Bool:=#[t_,t_,t_,t_,t_,t_,t_,f_,f_]
abbrev b913_8:Array Bool:=#[t_,t_,t_,t_,t_,t_,t_,t_,f_]
abbrev b913_9:Array Bool:=#[t_,t_,t_,t_,t_,t_,t_,t_,t_]
set_option maxHeartbeats 8000000 in
set_option maxRecDepth 100000 in
theorem zh_.calls (k:Nat) (A0:Option Addr) (c0:Nat) (l0:List (S82)) (a1:Int) (r:Int) (w:World) (hr0:Kd.C k82 w A0 l0.length l0) (hc0:l0.length≤c0) (h:zh_.f k l0 a1=some r):
  Calls Tryz.prog 99 #[.slice A0 l0.length c0,.int .i64 a1] w fun e w'=>e=.returned (.int .i64 r)∧Below w.heap.size w w':=by
 have HR0:=a_ hr0;have HC0:=a_ hc0;clear hr0 hc0;have HB:=a_ (Below.refl w.heap.size w);have H:(zh_.l0 k l0 a1 0)=some r:=h
 clear h;have H':=a_ H;clear H;go_enter Tryz.func99,Tryz.ntmps99;go_wp2;go_loopg [1,5] k (fun kq v1 v5 w'=>∃(x1_1:Int) (x5_1:Int),v1=.int .i64 x1_1∧v5=.int .i64 x5_1∧z0_ (zh_.l0 kq l0 x1_1 x5_1=some r)∧z0_ (kq≤k)∧z0_ (Below w.heap.size w w'))
 case atStart=>exact ⟨(a1),(0),mq_,mq_,H',⟨Nat.le_refl _⟩,⟨mb_ HB⟩⟩
 clear H';obtain ⟨x1_1,x5_1,rfl,rfl,HA,HK1,HB⟩:=hrel;obtain _|k1:=gk
 ·exact absurd HA.out (by simp [zh_.l0])
 have H:=HA.out;clear HA;simp only [zh_.l0] at H;by_cases c3:x5_1<(l0.length:Int)
 ·rw [if_pos c3] at H;have c3b0:=ct_ c3;clear c3;by_cases c4:0≤x5_1
  case neg=>
   rw [if_neg c4] at H;cases H
  rw [if_pos c4] at H;have c4b0:=ct_ c4;clear c4;by_cases c5:((zb_ l0 x5_1).f0)=x1_1
  ·rw [if_pos c5] at H;obtain ⟨c5b0,c5b1⟩:=bq_ c5;clear c5;by_cases c6:((zb_ l0 x5_1).f1)=(wrap64 (x1_1+1))
   ·rw [if_pos c6] at H;obtain ⟨c6b0,c6b1⟩:=bq_ c6;clear c6;by_cases c7:((zb_ l0 x5_1).f2)=(wrap64 ((wrap64 (x1_1+1))+1))
    ·rw [if_pos c7] at H;obtain ⟨c7b0,c7b1⟩:=bq_ c7;clear c7;by_cases c8:((zb_ l0 x5_1).f3.f0)=(wrap64 ((wrap64 ((wrap64 (x1_1+1))+1))+1))
     ·rw [if_pos c8] at H;obtain ⟨c8b0,c8b1⟩:=bq_ c8;clear c8;have HD:=a_ H;clear H;have p482:0≤(x5_1:Int):=md_
      have q482:x5_1<(l0.length:Int):=md_
      obtain ⟨ad482,e482,hx482_0,hx482_1,hx482_2,hx482_3,hx482_4,hx482_5⟩:=at_T82 HR0.out x5_1 p482 q482;cases e482;replace hx482_0:=mx_ HB hx482_0;replace hx482_1:=mx_ HB hx482_1;replace hx482_2:=mx_ HB hx482_2;replace hx482_3:=mx_ HB hx482_3;replace hx482_4:=mx_ HB hx482_4;replace hx482_5:=mx_ HB hx482_5;replace p482:=eq_true p482;replace q482:=eq_true q482;have p483:0≤(x5_1:Int):=md_
      have q483:x5_1<(l0.length:Int):=md_
      obtain ⟨ad483,e483,hx483_0,hx483_1,hx483_2,hx483_3,hx483_4,hx483_5⟩:=at_T82 HR0.out x5_1 p483 q483;obtain rfl:ad482=ad483:=(by injection e483);replace hx483_0:=mx_ HB hx483_0;replace hx483_1:=mx_ HB hx483_1;replace hx483_2:=mx_ HB hx483_2;replace hx483_3:=mx_ HB hx483_3;replace hx483_4:=mx_ HB hx483_4;replace hx483_5:=mx_ HB hx483_5;replace p483:=eq_true p483;replace q483:=eq_true q483;have p484:0≤(x5_1:Int):=md_
      have q484:x5_1<(l0.length:Int):=md_
      obtain ⟨ad484,e484,hx484_0,hx484_1,hx484_2,hx484_3,hx484_4,hx484_5⟩:=at_T82 HR0.out x5_1 p484 q484;obtain rfl:ad482=ad484:=(by injection e484);replace hx484_0:=mx_ HB hx484_0;replace hx484_1:=mx_ HB hx484_1;replace hx484_2:=mx_ HB hx484_2;replace hx484_3:=mx_ HB hx484_3;replace hx484_4:=mx_ HB hx484_4;replace hx484_5:=mx_ HB hx484_5;replace p484:=eq_true p484;replace q484:=eq_true q484;have p485:0≤(x5_1:Int):=md_
      have q485:x5_1<(l0.length:Int):=md_
      obtain ⟨ad485,e485,hx485_0,hx485_1,hx485_2,hx485_3,hx485_4,hx485_5⟩:=at_T82 HR0.out x5_1 p485 q485;obtain rfl:ad482=ad485:=(by injection e485);replace hx485_0:=mx_ HB hx485_0;replace hx485_1:=mx_ HB hx485_1;replace hx485_2:=mx_ HB hx485_2;replace hx485_3:=mx_ HB hx485_3;replace hx485_4:=mx_ HB hx485_4;replace hx485_5:=mx_ HB hx485_5;replace p485:=eq_true p485;replace q485:=eq_true q485;have p486:0≤(x5_1:Int):=md_
      have q486:x5_1<(l0.length:Int):=md_
      obtain ⟨ad486,e486,hx486_0,hx486_1,hx486_2,hx486_3,hx486_4,hx486_5⟩:=at_T82 HR0.out x5_1 p486 q486;obtain rfl:ad482=ad486:=(by injection e486);replace hx486_0:=mx_ HB hx486_0;replace hx486_1:=mx_ HB hx486_1;replace hx486_2:=mx_ HB hx486_2;replace hx486_3:=mx_ HB hx486_3;replace hx486_4:=mx_ HB hx486_4;replace hx486_5:=mx_ HB hx486_5;replace p486:=eq_true p486;replace q486:=eq_true q486;have H:=HD.out;clear HD;by_cases c9:((zb_ l0 x5_1).f3.f1)=(wrap64 ((wrap64 ((wrap64 ((wrap64 (x1_1+1))+1))+1))+1))
      ·rw [if_pos c9] at H;obtain ⟨c9b0,c9b1⟩:=bq_ c9;clear c9;obtain ⟨t488,A10,H⟩:=ob_ H;have HD:=a_ H;clear H;(try simp only [c9b0,c9b1,c11b0,c11b1]);try go_wp2
       replace HB:=a_ (x2_ HB.out);have p487:0≤(x5_1:Int):=md_
       have q487:x5_1<(l0.length:Int):=md_
       obtain ⟨ad487,e487,hx487_0,hx487_1,hx487_2,hx487_3,hx487_4,hx487_5⟩:=at_T82 HR0.out x5_1 p487 q487;have hw487_5:=hx487_5;have hw487_4:=hx487_4;have hw487_3:=hx487_3;have hw487_2:=hx487_2;have hw487_1:=hx487_1;have hw487_0:=hx487_0;obtain rfl:ad482=ad487:=(by injection e487);replace hx487_0:=mx_ HB hx487_0;replace hx487_1:=mx_ HB hx487_1;replace hx487_2:=mx_ HB hx487_2;replace hx487_3:=mx_ HB hx487_3;replace hx487_4:=mx_ HB hx487_4;replace hx487_5:=mx_ HB hx487_5;replace p487:=eq_true p487;replace q487:=eq_true q487;refine start_ (n:=9) (S:=fun w'=>w'.cell? (ad482.add ((x5_1).toNat*6))=some (.int .i64 ((zb_ l0 x5_1).f0))∧w'.cell? ⟨(ad482.add ((x5_1).toNat*6)).block,(ad482.add ((x5_1).toNat*6)).off+1,none⟩=some (.int .i64 ((zb_ l0 x5_1).f1))∧w'.cell? ⟨(ad482.add ((x5_1).toNat*6)).block,(ad482.add ((x5_1).toNat*6)).off+2,none⟩=some (.int .i64 ((zb_ l0 x5_1).f2))∧w'.cell? ⟨(ad482.add ((x5_1).toNat*6)).block,(ad482.add ((x5_1).toNat*6)).off+3,none⟩=some (.int .i64 ((zb_ l0 x5_1).f3.f0))∧w'.cell? ⟨(ad482.add ((x5_1).toNat*6)).block,(ad482.add ((x5_1).toNat*6)).off+4,none⟩=some (.int .i64 ((zb_ l0 x5_1).f3.f1))∧w'.cell? ⟨(ad482.add ((x5_1).toNat*6)).block,(ad482.add ((x5_1).toNat*6)).off+5,none⟩=some (.string ((zb_ l0 x5_1).f3.f2))) (ds:=[]) b913_0 (by kernel_rfl) rfl rfl ⟨(mx_ HB hw487_0),(mx_ HB hw487_1),(mx_ HB hw487_2),(mx_ HB hw487_3),(mx_ HB hw487_4),(mx_ HB hw487_5)⟩ (fun hHeld=>?_);refine with_tabW zh_.tab19 zh_.bits19 (fun HT_ HW_=>?_);generalize wr.drew=wq0 at HB hx487_0 hx487_1 hx487_2 hx487_3 hx487_4 hx487_5 hHeld ⊢;refine pu_ 0 59 b913_1 (ze_ HT_.out (by kernel_rfl)) ?_;refine pu_ 1 60 b913_2 (ze_ HT_.out (by kernel_rfl)) ?_;refine pu_ 2 61 b913_3 (ze_ HT_.out (by kernel_rfl)) ?_;refine pu_ 3 62 b913_4 (ze_ HT_.out (by kernel_rfl)) ?_;refine pu_ 4 63 b913_5 (ze_ HT_.out (by kernel_rfl)) ?_;refine pu_ 6 65 b913_6 (ze_ HT_.out (by kernel_rfl)) ?_;refine tk_ 5 64 b913_7 (w6_ HT_.out HW_.out (by kernel_rfl)) hHeld ?_;refine one_ (i:=7) (N:=some 66) b913_8 rfl rfl (one_of HT_.out (by kernel_rfl)) (by decide) (fun K hK=>?_);refine goes_ Tryz.func48 (by kernel_rfl) rfl #[.int .i64 (wrap64 ((wrap64 ((wrap64 ((wrap64 ((wrap64 (x1_1+1))+1))+1))+1))+1))] (by rfl) rfl rfl mw_ ?_;with_reducible refine (zi_.calls k1 (wrap64 ((wrap64 ((wrap64 ((wrap64 ((wrap64 (x1_1+1))+1))+1))+1))+1)) t488 _ A10.out).mono ?_
       rintro e wq1 ⟨rfl,hb⟩;refine ⟨_,rfl,?_⟩;replace HB:=ms_ HB hb;(try clear hb);(try clear hb2);(try clear hk);(try clear hi);refine hK.out _ _ ⟨(mx_ HB hw487_0),(mx_ HB hw487_1),(mx_ HB hw487_2),(mx_ HB hw487_3),(mx_ HB hw487_4),(mx_ HB hw487_5)⟩ (fun hHeld=>?_);clear hK K;refine nm_ 66 ?_;refine pu_ 8 67 b913_9 (ze_ HT_.out (by kernel_rfl)) ?_;refine done_ (done_of HT_.out (by kernel_rfl)) ?_;have H:=HD.out;clear HD;by_cases c11:((zb_ l0 x5_1).f3.f2).toList=t488.toList
       ·rw [if_pos c11] at H;obtain ⟨c11b0,c11b1⟩:=bq_ c11;clear c11;have H':=a_ H;clear H;(try simp only [c11b0,c11b1]);try go_wp2
        go_roundg k1
        case measure=>
         have:=HK1.out
         omega
        case rel=>exact ⟨(wrap64 ((wrap64 ((wrap64 ((wrap64 ((wrap64 ((wrap64 (x1_1+1))+1))+1))+1))+1))+1)),(wrap64 (x5_1+1)),mq_,mq_,H',⟨by have:=HK1.out;omega⟩,⟨mb_ HB⟩⟩
       ·rw [if_neg c11] at H;obtain ⟨c11b0,c11b1⟩:=bn_ c11;obtain rfl:=oi_ H;(try simp only [c11b0,c11b1]);try go_wp2
        go_ret;exact ⟨me_,mb_ HB⟩
      ·rw [if_neg c9] at H;obtain ⟨c9b0,c9b1⟩:=bn_ c9;obtain rfl:=oi_ H;(try simp only [c9b0,c9b1]);go_wp2;go_ret;exact ⟨me_,mb_ HB⟩
     ·rw [if_neg c8] at H;obtain ⟨c8b0,c8b1⟩:=bn_ c8;obtain rfl:=oi_ H;have p482:0≤(x5_1:Int):=md_
      have q482:x5_1<(l0.length:Int):=md_
      obtain ⟨ad482,e482,hx482_0,hx482_1,hx482_2,hx482_3,hx482_4,hx482_5⟩:=at_T82 HR0.out x5_1 p482 q482;cases e482;replace hx482_0:=mx_ HB hx482_0;replace hx482_1:=mx_ HB hx482_1;replace hx482_2:=mx_ HB hx482_2;replace hx482_3:=mx_ HB hx482_3;replace hx482_4:=mx_ HB hx482_4;replace hx482_5:=mx_ HB hx482_5;replace p482:=eq_true p482;replace q482:=eq_true q482;have p483:0≤(x5_1:Int):=md_
      have q483:x5_1<(l0.length:Int):=md_
      obtain ⟨ad483,e483,hx483_0,hx483_1,hx483_2,hx483_3,hx483_4,hx483_5⟩:=at_T82 HR0.out x5_1 p483 q483;obtain rfl:ad482=ad483:=(by injection e483);replace hx483_0:=mx_ HB hx483_0;replace hx483_1:=mx_ HB hx483_1;replace hx483_2:=mx_ HB hx483_2;replace hx483_3:=mx_ HB hx483_3;replace hx483_4:=mx_ HB hx483_4;replace hx483_5:=mx_ HB hx483_5;replace p483:=eq_true p483;replace q483:=eq_true q483;have p484:0≤(x5_1:Int):=md_
      have q484:x5_1<(l0.length:Int):=md_
      obtain ⟨ad484,e484,hx484_0,hx484_1,hx484_2,hx484_3,hx484_4,hx484_5⟩:=at_T82 HR0.out x5_1 p484 q484;obtain rfl:ad482=ad484:=(by injection e484);replace hx484_0:=mx_ HB hx484_0;replace hx484_1:=mx_ HB hx484_1;replace hx484_2:=mx_ HB hx484_2;replace hx484_3:=mx_ HB hx484_3;replace hx484_4:=mx_ HB hx484_4;replace hx484_5:=mx_ HB hx484_5;replace p484:=eq_true p484;replace q484:=eq_true q484;have p485:0≤(x5_1:Int):=md_
      have q485:x5_1<(l0.length:Int):=md_
      obtain ⟨ad485,e485,hx485_0,hx485_1,hx485_2,hx485_3,hx485_4,hx485_5⟩:=at_T82 HR0.out x5_1 p485 q485;obtain rfl:ad482=ad485:=(by injection e485);replace hx485_0:=mx_ HB hx485_0;replace hx485_1:=mx_ HB hx485_1;replace hx485_2:=mx_ HB hx485_2;replace hx485_3:=mx_ HB hx485_3;replace hx485_4:=mx_ HB hx485_4;replace hx485_5:=mx_ HB hx485_5;replace p485:=eq_true p485;replace q485:=eq_true q485;go_wp2;go_ret;exact ⟨me_,mb_ HB⟩
    ·rw [if_neg c7] at H;obtain ⟨c7b0,c7b1⟩:=bn_ c7;obtain rfl:=oi_ H;have p482:0≤(x5_1:Int):=md_
     have q482:x5_1<(l0.length:Int):=md_
     obtain ⟨ad482,e482,hx482_0,hx482_1,hx482_2,hx482_3,hx482_4,hx482_5⟩:=at_T82 HR0.out x5_1 p482 q482;cases e482;replace hx482_0:=mx_ HB hx482_0;replace hx482_1:=mx_ HB hx482_1;replace hx482_2:=mx_ HB hx482_2;replace hx482_3:=mx_ HB hx482_3;replace hx482_4:=mx_ HB hx482_4;replace hx482_5:=mx_ HB hx482_5;replace p482:=eq_true p482;replace q482:=eq_true q482;have p483:0≤(x5_1:Int):=md_
     have q483:x5_1<(l0.length:Int):=md_
     obtain ⟨ad483,e483,hx483_0,hx483_1,hx483_2,hx483_3,hx483_4,hx483_5⟩:=at_T82 HR0.out x5_1 p483 q483;obtain rfl:ad482=ad483:=(by injection e483);replace hx483_0:=mx_ HB hx483_0;replace hx483_1:=mx_ HB hx483_1;replace hx483_2:=mx_ HB hx483_2;replace hx483_3:=mx_ HB hx483_3;replace hx483_4:=mx_ HB hx483_4;replace hx483_5:=mx_ HB hx483_5;replace p483:=eq_true p483;replace q483:=eq_true q483;have p484:0≤(x5_1:Int):=md_
     have q484:x5_1<(l0.length:Int):=md_
     obtain ⟨ad484,e484,hx484_0,hx484_1,hx484_2,hx484_3,hx484_4,hx484_5⟩:=at_T82 HR0.out x5_1 p484 q484;obtain rfl:ad482=ad484:=(by injection e484);replace hx484_0:=mx_ HB hx484_0;replace hx484_1:=mx_ HB hx484_1;replace hx484_2:=mx_ HB hx484_2;replace hx484_3:=mx_ HB hx484_3;replace hx484_4:=mx_ HB hx484_4;replace hx484_5:=mx_ HB hx484_5;replace p484:=eq_true p484;replace q484:=eq_true q484;go_wp2;go_ret;exact ⟨me_,mb_ HB⟩
   ·rw [if_neg c6] at H;obtain ⟨c6b0,c6b1⟩:=bn_ c6;obtain rfl:=oi_ H;have p482:0≤(x5_1:Int):=md_
    have q482:x5_1<(l0.length:Int):=md_
    obtain ⟨ad482,e482,hx482_0,hx482_1,hx482_2,hx482_3,hx482_4,hx482_5⟩:=at_T82 HR0.out x5_1 p482 q482;cases e482;replace hx482_0:=mx_ HB hx482_0;replace hx482_1:=mx_ HB hx482_1;replace hx482_2:=mx_ HB hx482_2;replace hx482_3:=mx_ HB hx482_3;replace hx482_4:=mx_ HB hx482_4;replace hx482_5:=mx_ HB hx482_5;replace p482:=eq_true p482;replace q482:=eq_true q482;have p483:0≤(x5_1:Int):=md_
    have q483:x5_1<(l0.length:Int):=md_
    obtain ⟨ad483,e483,hx483_0,hx483_1,hx483_2,hx483_3,hx483_4,hx483_5⟩:=at_T82 HR0.out x5_1 p483 q483;obtain rfl:ad482=ad483:=(by injection e483);replace hx483_0:=mx_ HB hx483_0;replace hx483_1:=mx_ HB hx483_1;replace hx483_2:=mx_ HB hx483_2;replace hx483_3:=mx_ HB hx483_3;replace hx483_4:=mx_ HB hx483_4;replace hx483_5:=mx_ HB hx483_5;replace p483:=eq_true p483;replace q483:=eq_true q483;go_wp2;go_ret;exact ⟨me_,mb_ HB⟩
  ·rw [if_neg c5] at H;obtain ⟨c5b0,c5b1⟩:=bn_ c5;obtain rfl:=oi_ H;have p482:0≤(x5_1:Int):=md_
   have q482:x5_1<(l0.length:Int):=md_
   obtain ⟨ad482,e482,hx482_0,hx482_1,hx482_2,hx482_3,hx482_4,hx482_5⟩:=at_T82 HR0.out x5_1 p482 q482;cases e482;replace hx482_0:=mx_ HB hx482_0;replace hx482_1:=mx_ HB hx482_1;replace hx482_2:=mx_ HB hx482_2;replace hx482_3:=mx_ HB hx482_3;replace hx482_4:=mx_ HB hx482_4;replace hx482_5:=mx_ HB hx482_5;replace p482:=eq_true p482;replace q482:=eq_true q482;go_wp2;go_ret;exact ⟨me_,mb_ HB⟩
 ·rw [if_neg c3] at H;have c3b0:=cf_ c3;clear c3;obtain rfl:=oi_ H;go_wp2;go_ret;exact ⟨me_,mb_ HB⟩
end Go.Proofs.YtahambloheoebaaGreatDoor.P
