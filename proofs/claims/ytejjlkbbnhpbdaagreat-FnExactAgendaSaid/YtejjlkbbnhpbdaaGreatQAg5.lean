/- The row of the law FnExactAgenda: for every input the call returns true, and each argument reads behind it as it read before; no condition of ours. -/
import Derived.Laws.RangeString
import Derived.Lib.OthersKept
import Derived.Lib.DecodeN
import Derived.Lib.TrimU
import Derived.Test.YtejjlkbbnhpbdaaGreatQAg4
namespace Go.Proofs.YtejjlkbbnhpbdaaGreat.P
open Go.Proofs.YtejjlkbbnhpbdaaGreatX
open Go.RowKit Go.Proofs.YtejjlkbbnhpbdaaGreatW.PrintWords Go.Proofs.YtejjlkbbnhpbdaaGreatW.PrintLast Go.Proofs.YtejjlkbbnhpbdaaGreatW.PrintMore
attribute [local go_sem] max2_int min2_int max_two min_two max_three min_three max_four min_four
set_option linter.unusedVariables false
set_option linter.unusedSimpArgs false
mutual
def spec_l2Scope.l0:Nat→List ByteArray→List (S101)→Int→Int→ByteArray→Int→List (S101)→List (S106)→List (S108)→Option (Int)
 | 0,_,_,_,_,_,_,_,_,_=>none
 | k+1,x3,x14,x15,x16,x177000,x177001,x177002,x177003,x177004=>if x16<x15 then (if 0≤x16 then (if x16<(x14.length:Int) then (if ([]:List ByteArray).length+x3.length<8796093022208 then (spec_l2Scope.l1 k x3 x16 (([]:List ByteArray)++x3) x14 x15 x16 ((rd_T101 x14 x16).f2) (((rd_T101 x14 x16).f2).length:Int) 0 x177000 x177001 x177002 x177003 x177004 ((rd_T101 x14 x16).f0) ((rd_T101 x14 x16).f1) ((rd_T101 x14 x16).f2)) else (none)) else (none)) else (none)) else (spec_l2Scope.l2 k x3 x177004 (x177004.length:Int) 0 x177000 x177001 x177002 x177003 x177004)
def spec_l2Scope.l1:Nat→List ByteArray→Int→List ByteArray→List (S101)→Int→Int→List (S134)→Int→Int→ByteArray→Int→List (S101)→List (S106)→List (S108)→Bool→ByteArray→List (S134)→Option (Int)
 | 0,_,_,_,_,_,_,_,_,_,_,_,_,_,_,_,_,_=>none
 | k+1,x3,x4,x6,x14,x15,x16,x25,x26,x27,x177000,x177001,x177002,x177003,x177004,x179000,x179001,x179002=>if x27<x26 then (if 0≤x27 then (if x27<(x25.length:Int) then (if ((rd_T134 x25 x27).f0)=3 then (if ((rd_T134 x25 x27).f2).toList=([]:List UInt8) then (spec_l2Scope.j2 k x3 x4 x6 x14 x15 x16 x25 x26 x27 false x177000 x177001 x177002 x177003 x177004 x179000 x179001 x179002 ((rd_T134 x25 x27).f0) ((rd_T134 x25 x27).f1) ((rd_T134 x25 x27).f2) ((rd_T134 x25 x27).f3.f0) ((rd_T134 x25 x27).f3.f1) ((rd_T134 x25 x27).f3.f2)) else ((spec_l2Is.f k ((rd_T134 x25 x27).f2) x6).bind fun t184=>(spec_l2Scope.j2 k x3 x4 x6 x14 x15 x16 x25 x26 x27 (!t184) x177000 x177001 x177002 x177003 x177004 x179000 x179001 x179002 ((rd_T134 x25 x27).f0) ((rd_T134 x25 x27).f1) ((rd_T134 x25 x27).f2) ((rd_T134 x25 x27).f3.f0) ((rd_T134 x25 x27).f3.f1) ((rd_T134 x25 x27).f3.f2)))) else (spec_l2Scope.j2 k x3 x4 x6 x14 x15 x16 x25 x26 x27 false x177000 x177001 x177002 x177003 x177004 x179000 x179001 x179002 ((rd_T134 x25 x27).f0) ((rd_T134 x25 x27).f1) ((rd_T134 x25 x27).f2) ((rd_T134 x25 x27).f3.f0) ((rd_T134 x25 x27).f3.f1) ((rd_T134 x25 x27).f3.f2))) else (none)) else (none)) else (if x179000=true then (spec_l2Scope.l0 k x3 x14 x15 (wrap64 (x16+1)) x177000 x177001 x177002 x177003 x177004) else (spec_l2Scope.l0 k x6 x14 x15 (wrap64 (x16+1)) x177000 x177001 x177002 x177003 x177004))
def spec_l2Scope.j2:Nat→List ByteArray→Int→List ByteArray→List (S101)→Int→Int→List (S134)→Int→Int→Bool→ByteArray→Int→List (S101)→List (S106)→List (S108)→Bool→ByteArray→List (S134)→Int→Int→ByteArray→Int→Int→ByteArray→Option (Int)
 | 0,_,_,_,_,_,_,_,_,_,_,_,_,_,_,_,_,_,_,_,_,_,_,_,_=>none
 | k+1,x3,x4,x6,x14,x15,x16,x25,x26,x27,x45,x177000,x177001,x177002,x177003,x177004,x179000,x179001,x179002,x184000,x184001,x184002,x184003,x184004,x184005=>if x45=true then (some (wrap64 (x4+1))) else (if x184000=2 then (if x6.length<8796093022208 then (spec_l2Scope.l1 k x3 x4 (x6++[x184002]) x14 x15 x16 x25 x26 (wrap64 (x27+1)) x177000 x177001 x177002 x177003 x177004 x179000 x179001 x179002) else (none)) else (spec_l2Scope.l1 k x3 x4 x6 x14 x15 x16 x25 x26 (wrap64 (x27+1)) x177000 x177001 x177002 x177003 x177004 x179000 x179001 x179002))
def spec_l2Scope.l2:Nat→List ByteArray→List (S108)→Int→Int→ByteArray→Int→List (S101)→List (S106)→List (S108)→Option (Int)
 | 0,_,_,_,_,_,_,_,_,_=>none
 | k+1,x3,x63,x64,x65,x177000,x177001,x177002,x177003,x177004=>if x65<x64 then (if 0≤x65 then (if x65<(x63.length:Int) then (if (((rd_T108 x63 x65).f3).length:Int)=0 then (spec_l2Scope.l2 k x3 x63 x64 (wrap64 (x65+1)) x177000 x177001 x177002 x177003 x177004) else (if 0<(((rd_T108 x63 x65).f3).length:Int) then ((spec_l2First.f k x177003 (rd ((rd_T108 x63 x65).f3) 0)).bind fun t191=>(spec_l2Scope.l3 k x3 x65 t191 x63 x64 x65 x177000 x177001 x177002 x177003 x177004 ((rd_T108 x63 x65).f0) ((rd_T108 x63 x65).f1) ((rd_T108 x63 x65).f2) ((rd_T108 x63 x65).f3))) else (none))) else (none)) else (none)) else (some (-1))
def spec_l2Scope.l3:Nat→List ByteArray→Int→Int→List (S108)→Int→Int→ByteArray→Int→List (S101)→List (S106)→List (S108)→Int→Int→ByteArray→List Int→Option (Int)
 | 0,_,_,_,_,_,_,_,_,_,_,_,_,_,_,_=>none
 | k+1,x3,x9,x11,x63,x64,x65,x177000,x177001,x177002,x177003,x177004,x190000,x190001,x190002,x190003=>if 0≤(wrap64 ((x190003.length:Int)-1)) then (if (wrap64 ((x190003.length:Int)-1))<(x190003.length:Int) then (if x11≤(rd x190003 (wrap64 ((x190003.length:Int)-1))) then (if 0≤x11 then (if x11<(x177003.length:Int) then (if ((rd_T106 x177003 x11).f0)=1 then ((spec_l2Is.f k ((rd_T106 x177003 x11).f2) x3).bind fun t195=>(if t195=true then (spec_l2Scope.l3 k x3 x9 (wrap64 (x11+1)) x63 x64 x65 x177000 x177001 x177002 x177003 x177004 x190000 x190001 x190002 x190003) else (some (wrap64 ((wrap64 ((x177002.length:Int)+x9))+1))))) else (spec_l2Scope.l3 k x3 x9 (wrap64 (x11+1)) x63 x64 x65 x177000 x177001 x177002 x177003 x177004 x190000 x190001 x190002 x190003)) else (none)) else (none)) else (spec_l2Scope.l2 k x3 x63 x64 (wrap64 (x65+1)) x177000 x177001 x177002 x177003 x177004)) else (none)) else (none)
end
def spec_l2Scope.f (k:Nat) (a0_0:ByteArray) (a0_1:Int) (l0_2:List (S101)) (l0_3:List (S106)) (l0_4:List (S108)):Option (Int):=spec_l2Scope.l0 k ([]:List ByteArray) l0_2 (l0_2.length:Int) 0 a0_0 a0_1 l0_2 l0_3 l0_4
theorem spec_l2Scope.mono_l:∀k,(∀y0 y1 y2 y3 y4 y5 y6 y7 y8,LeO (spec_l2Scope.l0 k y0 y1 y2 y3 y4 y5 y6 y7 y8) (spec_l2Scope.l0 (k+1) y0 y1 y2 y3 y4 y5 y6 y7 y8))∧(∀y0 y1 y2 y3 y4 y5 y6 y7 y8 y9 y10 y11 y12 y13 y14 y15 y16,LeO (spec_l2Scope.l1 k y0 y1 y2 y3 y4 y5 y6 y7 y8 y9 y10 y11 y12 y13 y14 y15 y16) (spec_l2Scope.l1 (k+1) y0 y1 y2 y3 y4 y5 y6 y7 y8 y9 y10 y11 y12 y13 y14 y15 y16))∧(∀y0 y1 y2 y3 y4 y5 y6 y7 y8 y9 y10 y11 y12 y13 y14 y15 y16 y17 y18 y19 y20 y21 y22 y23,LeO (spec_l2Scope.j2 k y0 y1 y2 y3 y4 y5 y6 y7 y8 y9 y10 y11 y12 y13 y14 y15 y16 y17 y18 y19 y20 y21 y22 y23) (spec_l2Scope.j2 (k+1) y0 y1 y2 y3 y4 y5 y6 y7 y8 y9 y10 y11 y12 y13 y14 y15 y16 y17 y18 y19 y20 y21 y22 y23))∧(∀y0 y1 y2 y3 y4 y5 y6 y7 y8,LeO (spec_l2Scope.l2 k y0 y1 y2 y3 y4 y5 y6 y7 y8) (spec_l2Scope.l2 (k+1) y0 y1 y2 y3 y4 y5 y6 y7 y8))∧(∀y0 y1 y2 y3 y4 y5 y6 y7 y8 y9 y10 y11 y12 y13 y14,LeO (spec_l2Scope.l3 k y0 y1 y2 y3 y4 y5 y6 y7 y8 y9 y10 y11 y12 y13 y14) (spec_l2Scope.l3 (k+1) y0 y1 y2 y3 y4 y5 y6 y7 y8 y9 y10 y11 y12 y13 y14))
 | 0=>⟨fun _ _ _ _ _ _ _ _ _ r h=>by simp [spec_l2Scope.l0] at h,fun _ _ _ _ _ _ _ _ _ _ _ _ _ _ _ _ _ r h=>by simp [spec_l2Scope.l1] at h,fun _ _ _ _ _ _ _ _ _ _ _ _ _ _ _ _ _ _ _ _ _ _ _ _ r h=>by simp [spec_l2Scope.j2] at h,fun _ _ _ _ _ _ _ _ _ r h=>by simp [spec_l2Scope.l2] at h,fun _ _ _ _ _ _ _ _ _ _ _ _ _ _ _ r h=>by simp [spec_l2Scope.l3] at h⟩
 | k+1=>by
  obtain ⟨ih0,ih1,ih2,ih3,ih4⟩:=spec_l2Scope.mono_l k;refine ⟨?_,?_,?_,?_,?_⟩
  ·intro y0 y1 y2 y3 y4 y5 y6 y7 y8;unfold spec_l2Scope.l0
   repeat' with_reducible first|apply ih0|apply ih1|apply ih2|apply ih3|apply ih4|apply spec_l2First.mono|apply spec_l2Is.mono|apply LeO.refl|apply LeO.none|refine LeO.ite ?_ ?_|refine LeO.bind ?_ (fun _=>?_)
  ·intro y0 y1 y2 y3 y4 y5 y6 y7 y8 y9 y10 y11 y12 y13 y14 y15 y16;unfold spec_l2Scope.l1
   repeat' with_reducible first|apply ih0|apply ih1|apply ih2|apply ih3|apply ih4|apply spec_l2First.mono|apply spec_l2Is.mono|apply LeO.refl|apply LeO.none|refine LeO.ite ?_ ?_|refine LeO.bind ?_ (fun _=>?_)
  ·intro y0 y1 y2 y3 y4 y5 y6 y7 y8 y9 y10 y11 y12 y13 y14 y15 y16 y17 y18 y19 y20 y21 y22 y23;unfold spec_l2Scope.j2
   repeat' with_reducible first|apply ih0|apply ih1|apply ih2|apply ih3|apply ih4|apply spec_l2First.mono|apply spec_l2Is.mono|apply LeO.refl|apply LeO.none|refine LeO.ite ?_ ?_|refine LeO.bind ?_ (fun _=>?_)
  ·intro y0 y1 y2 y3 y4 y5 y6 y7 y8;unfold spec_l2Scope.l2
   repeat' with_reducible first|apply ih0|apply ih1|apply ih2|apply ih3|apply ih4|apply spec_l2First.mono|apply spec_l2Is.mono|apply LeO.refl|apply LeO.none|refine LeO.ite ?_ ?_|refine LeO.bind ?_ (fun _=>?_)
  ·intro y0 y1 y2 y3 y4 y5 y6 y7 y8 y9 y10 y11 y12 y13 y14;unfold spec_l2Scope.l3
   repeat' with_reducible first|apply ih0|apply ih1|apply ih2|apply ih3|apply ih4|apply spec_l2First.mono|apply spec_l2Is.mono|apply LeO.refl|apply LeO.none|refine LeO.ite ?_ ?_|refine LeO.bind ?_ (fun _=>?_)
theorem spec_l2Scope.mono:∀a0 a1 a2 a3 a4 k,LeO (spec_l2Scope.f k a0 a1 a2 a3 a4) (spec_l2Scope.f (k+1) a0 a1 a2 a3 a4):=by
 intro a0 a1 a2 a3 a4 k;obtain ⟨ih0,ih1,ih2,ih3,ih4⟩:=spec_l2Scope.mono_l k;unfold spec_l2Scope.f
 repeat' with_reducible first|apply ih0|apply ih1|apply ih2|apply ih3|apply ih4|apply spec_l2First.mono|apply spec_l2Is.mono|apply LeO.refl|apply LeO.none|refine LeO.ite ?_ ?_|refine LeO.bind ?_ (fun _=>?_)
theorem u8ee_1 {p:Prop} (h:p:=by
 exact ⟨(wrap64 (x11_3+1)),mq_,H',⟨by have:=HK1.out;have:=HK2.out;have:=HK3.out;omega⟩,⟨(Kd.R_mono (mf_ HO_3 BK194) (fun _ hk=>trivial))⟩,⟨mc_ BK176⟩,⟨mc_ BK189⟩,⟨mb_ HB⟩⟩):p:=h
theorem u8ee_0 {p:Prop} (h:p:=by
 exact ⟨_,(false),mq_,H',⟨by have:=HK1.out;have:=HK2.out;first|omega|exact Nat.le_refl _⟩,⟨(Kd.R_mono (mf_ HO_3 BK183) (fun _ hk=>hk.1))⟩,⟨(Kd.R_mono (mf_ HO_6 BK183) (fun _ hk=>hk.1))⟩,⟨mc_ BK176⟩,⟨mc_ BK178⟩,⟨mp_ BK183⟩,⟨mb_ HB⟩⟩):p:=h
set_option maxHeartbeats 8000000 in
set_option maxRecDepth 100000 in
theorem spec_l2Scope.calls (k:Nat) (a0_0:ByteArray) (a0_1:Int) (A0_2:Option Addr) (c0_2:Nat) (l0_2:List (S101)) (A0_3:Option Addr) (c0_3:Nat) (l0_3:List (S106)) (A0_4:Option Addr) (c0_4:Nat) (l0_4:List (S108)) (r:Int) (w:World) (hr0_2:Kd.C k101 w A0_2 l0_2.length l0_2) (hc0_2:l0_2.length≤c0_2) (hr0_3:Kd.C k106 w A0_3 l0_3.length l0_3) (hc0_3:l0_3.length≤c0_3) (hr0_4:Kd.C k108 w A0_4 l0_4.length l0_4) (hc0_4:l0_4.length≤c0_4) (h:spec_l2Scope.f k a0_0 a0_1 l0_2 l0_3 l0_4=some r):
  Calls Tryz.prog 71 #[.agg #[.string a0_0,.int .i64 a0_1,.slice A0_2 l0_2.length c0_2,.slice A0_3 l0_3.length c0_3,.slice A0_4 l0_4.length c0_4]] w fun e w'=>e=.returned (.int .i64 r)∧Below w.heap.size w w':=by
 have hu58:=Tryz.underlying58;have hu101:=Tryz.underlying101;have hu134:=Tryz.underlying134;have hu108:=Tryz.underlying108;have hu106:=Tryz.underlying106;have HR0_2:=a_ hr0_2;have HC0_2:=a_ hc0_2;clear hr0_2 hc0_2;have HR0_3:=a_ hr0_3;have HC0_3:=a_ hc0_3;clear hr0_3 hc0_3;have HR0_4:=a_ hr0_4;have HC0_4:=a_ hc0_4;clear hr0_4 hc0_4;have HB:=a_ (Below.refl w.heap.size w);have H:(spec_l2Scope.l0 k ([]:List ByteArray) l0_2 (l0_2.length:Int) 0 a0_0 a0_1 l0_2 l0_3 l0_4)=some r:=h
 clear h;have H':=a_ H;clear H;go_enter Tryz.func71,Tryz.ntmps71;iterate 3 (go_wp2_with (first|((with_reducible refine gate_dst (N:=1) rfl ?_);refine bh_ 1 #[.string a0_0,.int .i64 a0_1,.slice A0_2 l0_2.length c0_2,.slice A0_3 l0_3.length c0_3,.slice A0_4 l0_4.length c0_4] 58 HB ?_;intro gb176 hg w2 BK176 GE176 hb;replace HB:=ms_ HB hb;clear hb hg;replace hz176:=cz5 BK176));try go_quiet (fail))
 go_loopg [3,16] k (fun kq v3 v16 w'=>∃(x3_1:List ByteArray) (x16_1:Int),v16=.int .i64 x16_1∧Aside0 (spec_l2Scope.l0 kq x3_1 l0_2 (l0_2.length:Int) x16_1 a0_0 a0_1 l0_2 l0_3 l0_4=some r)∧Aside0 (kq≤k)∧Aside0 (Kd.R Kd.string 9 w' w.heap.size (fun _=>True) v3 x3_1)∧Aside0 (w'.heap[gb176]?=some (.cells #[.string a0_0,.int .i64 a0_1,(.slice A0_2 l0_2.length c0_2),(.slice A0_3 l0_3.length c0_3),(.slice A0_4 l0_4.length c0_4)] 58 (0,0)))∧Aside0 (Below w.heap.size w w'))
 case atStart=>exact ⟨(([]:List ByteArray)),(0),mq_,H',⟨Nat.le_refl _⟩,⟨by first|exact Kd.R_nil _ _ _ _ _|exact Kd.N_nil _ _ _ _ _|exact Kd.V_nil _ _ _ _ _|exact Kd.Q_nil _ _ _ _ _|exact Kd.S_nil _ _ _ _ _⟩,⟨mc_ BK176⟩,⟨mb_ HB⟩⟩
 clear H';(try clear hz176);obtain ⟨x3_1,x16_1,rfl,HA,HK1,HO_3,BK176,HB⟩:=hrel;obtain _|k1:=gk
 ·exact absurd HA.out (by simp [spec_l2Scope.l0])
 have H:=HA.out;clear HA;simp only [spec_l2Scope.l0] at H;by_cases c4:x16_1<(l0_2.length:Int)
 ·rw [if_pos c4] at H;have c4b0:=ct_ c4;clear c4;by_cases c5:0≤x16_1
  case neg=>
   rw [if_neg c5] at H;cases H
  rw [if_pos c5] at H;have c5b0:=ct_ c5;clear c5;by_cases c6:x16_1<(l0_2.length:Int)
  case neg=>
   rw [if_neg c6] at H;cases H
  rw [if_pos c6] at H;have c6b0:=ct_ c6;clear c6;by_cases c7:([]:List ByteArray).length+x3_1.length<8796093022208
  case neg=>
   rw [if_neg c7] at H;cases H
  rw [if_pos c7] at H;have LMc7:=a_ c7;clear c7;obtain ⟨y179,hy179⟩:∃y_:List ByteArray,y_=(([]:List ByteArray)++x3_1):=⟨_,rfl⟩;rw [←hy179] at H;(try rw [Option.bind_some] at H);have Ny179:=a_ hy179;clear hy179;have H':=a_ H;clear H;have p177:0≤(x16_1:Int):=md_
  have q177:x16_1<(l0_2.length:Int):=md_
  obtain ⟨ad177,A177_2,c177_2,e177,hx177_0,hx177_1,hx177_2,hl177_2,hi177_2⟩:=at_T101 HR0_2.out x16_1 p177 q177;cases e177;replace hx177_0:=mx_ HB hx177_0;replace hx177_1:=mx_ HB hx177_1;replace hx177_2:=mx_ HB hx177_2;have HR177_2:=a_ hi177_2;have HC177_2:=a_ hl177_2;clear hi177_2 hl177_2;replace p177:=eq_true p177;replace q177:=eq_true q177;iterate 3 (go_wp2_with (first|((with_reducible refine gate_dst (N:=5) rfl ?_);refine bh_ 5 #[.bool false,.string (⟨#[]⟩:ByteArray),.slice none 0 0] 101 HB ?_;intro gb178 hg w8 BK178 GE178 hb;obtain ⟨NB176_178,NB178_176⟩:=mn_ BK176 hg;replace HO_3:=ro_ HO_3 hb;replace BK176:=mk_ BK176 hb;replace HB:=ms_ HB hb;clear hb hg;have nNB178_176:=NB178_176.out;have nNB176_178:=NB176_178.out;replace hz178:=cz3 BK178;obtain ⟨Ao12,co12,eo12⟩:=Kd.R_slice HO_3.out;subst eo12)|((with_reducible refine gate_builtin (b:=.append) (xs:=#[.tmp 21,.tmp 22]) rfl ?_);at_builtin;refine Kd.R_append_rows Kd.string (w0:=w) w.heap.size rfl (.tmp 21) (.tmp 22) 141 9 (.string ⟨#[]⟩) 16 rfl Tryz.underlying141 info9 rfl (by decide) (by omega) (.slice none 0 0) ([]:List ByteArray) x3_1 _ _ _ (fun k_=>some k_≠(.slice Ao12 x3_1.length co12:Value).ownBlock) (fun _=>False) rfl rfl ?aO ?aR (fun _ _ h=>h) (fun _ h=>h.elim) ?aF ?aB ?aS ?aL ?_;(case aR=>refine (Kd.R_reads' (e:=9) (base:=w.heap.size) (ok:=fun k_=>True) (n:=x3_1.length) (c:=co12) ?_).2.2;exact ((Kd.R_mono (mf_ HO_3 BK178) (fun _ h_=>h_.1))));(case aB=>exact (mb_ HB));(case aF=>exact (fun k_ hk=>Kd.fresh' (Kd.R_lt ((Kd.R_mono (mf_ HO_3 BK178) (fun _ h_=>h_.1)))) k_ hk));(case aO=>exact ((Kd.R_nil _ _ _ _ (fun k_=>some k_≠(.slice Ao12 x3_1.length co12:Value).ownBlock))));(case aS=>exact (below_size (mb_ HB)));(case aL=>have:=LMc7.out;omega);intro v180 w11 ho hb hg hat;rw [←Ny179.out] at ho;have HO181:=a_ (ho);replace HO_3:=a_ (Kd.R_after (Kd.R_apart_nil ((Kd.R_mono (mf_ HO_3 BK178) (fun _ h_=>h_.1)))) hg hat);replace BK176:=a_ (blk_grown (mc_ BK176) hg (by simp [Value.ownBlock]));replace BK178:=a_ (blk_grown (g:=gb178) (o:=.cells #[.bool ((rd_T101 l0_2 x16_1).f0),.string ((rd_T101 l0_2 x16_1).f1),.slice A177_2 ((rd_T101 l0_2 x16_1).f2).length c177_2] 101 (0,0)) (mp_ BK178) hg (by simp [Value.ownBlock]));replace HB:=a_ (hb);clear ho hb hg hat;replace hz178:=cz3 BK178));try go_quiet (fail))
  go_loopg [6,27] k1 (fun kq v6 v27 w'=>∃(x6_2:List ByteArray) (x27_2:Int),v27=.int .i64 x27_2∧Aside0 (spec_l2Scope.l1 kq x3_1 x16_1 x6_2 l0_2 (l0_2.length:Int) x16_1 ((rd_T101 l0_2 x16_1).f2) (((rd_T101 l0_2 x16_1).f2).length:Int) x27_2 a0_0 a0_1 l0_2 l0_3 l0_4 ((rd_T101 l0_2 x16_1).f0) ((rd_T101 l0_2 x16_1).f1) ((rd_T101 l0_2 x16_1).f2)=some r)∧Aside0 (kq≤k1)∧Aside0 (Kd.R Kd.string 9 w' w.heap.size (fun k_=>some k_≠(v6:Value).ownBlock) (.slice Ao12 x3_1.length co12) x3_1)∧Aside0 (Kd.R Kd.string 9 w' w.heap.size (fun k_=>some k_≠((.slice Ao12 x3_1.length co12):Value).ownBlock) v6 x6_2)∧Aside0 (w'.heap[gb176]?=some (.cells #[.string a0_0,.int .i64 a0_1,(.slice (some ad177) l0_2.length c0_2),(.slice A0_3 l0_3.length c0_3),(.slice A0_4 l0_4.length c0_4)] 58 (0,0)))∧Aside0 (w'.heap[gb178]?=some (.cells #[.bool ((rd_T101 l0_2 x16_1).f0),.string ((rd_T101 l0_2 x16_1).f1),(.slice A177_2 ((rd_T101 l0_2 x16_1).f2).length c177_2)] 101 (0,0)))∧Aside0 (Below w.heap.size w w'))
  case atStart=>exact ⟨(y179),(0),mq_,H',⟨Nat.le_refl _⟩,⟨mo_ (Kd.R_mono HO_3.out (fun _ hk=>hk.2))⟩,⟨mo_ HO181.out⟩,⟨mc_ BK176⟩,⟨mc_ BK178⟩,⟨mb_ HB⟩⟩
  clear H';(try clear c4b0);(try clear c5b0);(try clear c6b0);(try clear hx177_0);(try clear hx177_1);(try clear hx177_2);(try clear p177);(try clear q177);obtain ⟨x6_2,x27_2,rfl,HA,HK2,HO_3,HO_6,BK176,BK178,HB⟩:=hrel;obtain _|k2:=gk
  ·exact absurd HA.out (by simp [spec_l2Scope.l1])
  have H:=HA.out;clear HA;simp only [spec_l2Scope.l1] at H;by_cases c14:x27_2<(((rd_T101 l0_2 x16_1).f2).length:Int)
  ·rw [if_pos c14] at H;have c14b0:=ct_ c14;clear c14;by_cases c15:0≤x27_2
   case neg=>
    rw [if_neg c15] at H;cases H
   rw [if_pos c15] at H;have c15b0:=ct_ c15;clear c15;by_cases c16:x27_2<(((rd_T101 l0_2 x16_1).f2).length:Int)
   case neg=>
    rw [if_neg c16] at H;cases H
   rw [if_pos c16] at H;have c16b0:=ct_ c16;clear c16;have HC17:=a_ H;clear H;have p182:0≤(x27_2:Int):=md_
   have q182:x27_2<(((rd_T101 l0_2 x16_1).f2).length:Int):=md_
   obtain ⟨ad182,e182,hx182_0,hx182_1,hx182_2,hx182_3,hx182_4,hx182_5⟩:=at_T134 HR177_2.out x27_2 p182 q182;cases e182;replace hx182_0:=mx_ HB hx182_0;replace hx182_1:=mx_ HB hx182_1;replace hx182_2:=mx_ HB hx182_2;replace hx182_3:=mx_ HB hx182_3;replace hx182_4:=mx_ HB hx182_4;replace hx182_5:=mx_ HB hx182_5;replace p182:=eq_true p182;replace q182:=eq_true q182;go_upto_region 10 with (first|((with_reducible refine gate_dst (N:=8) rfl ?_);refine bh_ 8 #[.int .i64 0,.int .i64 0,.string (⟨#[]⟩:ByteArray),.int .i64 0,.int .i64 0,.string (⟨#[]⟩:ByteArray)] 134 HB ?_;intro gb183 hg w18 BK183 GE183 hb;obtain ⟨NB176_183,NB183_176⟩:=mn_ BK176 hg;obtain ⟨NB178_183,NB183_178⟩:=mn_ BK178 hg;replace HO_3:=ro_ HO_3 hb;replace HO_6:=ro_ HO_6 hb;replace BK176:=mk_ BK176 hb;replace BK178:=mk_ BK178 hb;replace HB:=ms_ HB hb;clear hb hg;have nNB183_176:=NB183_176.out;have nNB176_183:=NB176_183.out;have nNB183_178:=NB183_178.out;have nNB178_183:=NB178_183.out;replace hz183:=cz6 BK183));repeat (go_quiet (first|((with_reducible refine gate_dst (N:=8) rfl ?_);refine bh_ 8 #[.int .i64 0,.int .i64 0,.string (⟨#[]⟩:ByteArray),.int .i64 0,.int .i64 0,.string (⟨#[]⟩:ByteArray)] 134 HB ?_;intro gb183 hg w18 BK183 GE183 hb;obtain ⟨NB176_183,NB183_176⟩:=mn_ BK176 hg;obtain ⟨NB178_183,NB183_178⟩:=mn_ BK178 hg;replace HO_3:=ro_ HO_3 hb;replace HO_6:=ro_ HO_6 hb;replace BK176:=mk_ BK176 hb;replace BK178:=mk_ BK178 hb;replace HB:=ms_ HB hb;clear hb hg;have nNB183_176:=NB183_176.out;have nNB176_183:=NB176_183.out;have nNB183_178:=NB183_178.out;have nNB178_183:=NB178_183.out;replace hz183:=cz6 BK183));go_upto_region 10 with (first|((with_reducible refine gate_dst (N:=8) rfl ?_);refine bh_ 8 #[.int .i64 0,.int .i64 0,.string (⟨#[]⟩:ByteArray),.int .i64 0,.int .i64 0,.string (⟨#[]⟩:ByteArray)] 134 HB ?_;intro gb183 hg w18 BK183 GE183 hb;obtain ⟨NB176_183,NB183_176⟩:=mn_ BK176 hg;obtain ⟨NB178_183,NB183_178⟩:=mn_ BK178 hg;replace HO_3:=ro_ HO_3 hb;replace HO_6:=ro_ HO_6 hb;replace BK176:=mk_ BK176 hb;replace BK178:=mk_ BK178 hb;replace HB:=ms_ HB hb;clear hb hg;have nNB183_176:=NB183_176.out;have nNB176_183:=NB176_183.out;have nNB183_178:=NB183_178.out;have nNB178_183:=NB178_183.out;replace hz183:=cz6 BK183)))
   (try simp only [Act.put,List.setIfInBounds_toArray,List.set_cons_zero,List.set_cons_succ]);go_cut [45] (fun v45 wc=>∃(kq:Nat) (x45_16:Bool),v45=.bool x45_16∧Aside0 (spec_l2Scope.j2 kq x3_1 x16_1 x6_2 l0_2 (l0_2.length:Int) x16_1 ((rd_T101 l0_2 x16_1).f2) (((rd_T101 l0_2 x16_1).f2).length:Int) x27_2 x45_16 a0_0 a0_1 l0_2 l0_3 l0_4 ((rd_T101 l0_2 x16_1).f0) ((rd_T101 l0_2 x16_1).f1) ((rd_T101 l0_2 x16_1).f2) ((rd_T134 ((rd_T101 l0_2 x16_1).f2) x27_2).f0) ((rd_T134 ((rd_T101 l0_2 x16_1).f2) x27_2).f1) ((rd_T134 ((rd_T101 l0_2 x16_1).f2) x27_2).f2) ((rd_T134 ((rd_T101 l0_2 x16_1).f2) x27_2).f3.f0) ((rd_T134 ((rd_T101 l0_2 x16_1).f2) x27_2).f3.f1) ((rd_T134 ((rd_T101 l0_2 x16_1).f2) x27_2).f3.f2)=some r)∧Aside0 (kq≤k2)∧Aside0 (Kd.R Kd.string 9 wc w.heap.size (fun k_=>some k_≠(u6:Value).ownBlock) (.slice Ao12 x3_1.length co12) x3_1)∧Aside0 (Kd.R Kd.string 9 wc w.heap.size (fun k_=>some k_≠((.slice Ao12 x3_1.length co12):Value).ownBlock) u6 x6_2)∧Aside0 (wc.heap[gb176]?=some (.cells #[.string a0_0,.int .i64 a0_1,(.slice (some ad177) l0_2.length c0_2),(.slice A0_3 l0_3.length c0_3),(.slice A0_4 l0_4.length c0_4)] 58 (0,0)))∧Aside0 (wc.heap[gb178]?=some (.cells #[.bool ((rd_T101 l0_2 x16_1).f0),.string ((rd_T101 l0_2 x16_1).f1),(.slice (some ad182) ((rd_T101 l0_2 x16_1).f2).length c177_2)] 101 (0,0)))∧Aside0 (wc.heap[gb183]?=some (.cells #[.int .i64 ((rd_T134 ((rd_T101 l0_2 x16_1).f2) x27_2).f0),.int .i64 ((rd_T134 ((rd_T101 l0_2 x16_1).f2) x27_2).f1),.string ((rd_T134 ((rd_T101 l0_2 x16_1).f2) x27_2).f2),.int .i64 ((rd_T134 ((rd_T101 l0_2 x16_1).f2) x27_2).f3.f0),.int .i64 ((rd_T134 ((rd_T101 l0_2 x16_1).f2) x27_2).f3.f1),.string ((rd_T134 ((rd_T101 l0_2 x16_1).f2) x27_2).f3.f2)] 134 (0,0)))∧Aside0 (Below w.heap.size w wc))
   case first=>
    have H:=HC17.out;clear HC17;by_cases c22:((rd_T134 ((rd_T101 l0_2 x16_1).f2) x27_2).f0)=3
    ·rw [if_pos c22] at H;obtain ⟨c22b0,c22b1⟩:=bq_ c22;clear c22;(first|rw [c22b0]|(simp only [i64_w,i32_w];rw [c22b0])|skip);by_cases c23:((rd_T134 ((rd_T101 l0_2 x16_1).f2) x27_2).f2).toList=([]:List UInt8)
     ·rw [if_pos c23] at H;obtain ⟨c23b0,c23b1⟩:=bq_ c23;clear c23;have H':=a_ H;clear H;have nNB183_176:=NB183_176.out;have nNB176_183:=NB176_183.out;have nNB183_178:=NB183_178.out;have nNB178_183:=NB178_183.out;replace hz183:=cz6 BK183;go_wp2;repeat (go_quiet (fail);try go_wp2)
      go_meet
      case rel=>exact u8ee_0
     ·rw [if_neg c23] at H;obtain ⟨c23b0,c23b1⟩:=bn_ c23;obtain ⟨t184,A27,H⟩:=ob_ H;have H':=a_ H;clear H;have nNB183_176:=NB183_176.out;have nNB176_183:=NB176_183.out;have nNB183_178:=NB183_178.out;have nNB178_183:=NB178_183.out;replace hz183:=cz6 BK183;obtain ⟨Ao31,co31,eo31⟩:=Kd.R_slice HO_6.out;subst eo31;go_wp2_with (first|(go_at_call 91;(with_reducible refine (spec_l2Is.calls k2 ((rd_T134 ((rd_T101 l0_2 x16_1).f2) x27_2).f2) _ _ x6_2 t184 _ ?side1 ?side2 A27.out).mono ?_);(case side1=>refine (Kd.R_reads' (e:=9) (base:=w.heap.size) (ok:=fun k_=>some k_≠(.slice Ao12 x3_1.length co12:Value).ownBlock) (n:=x6_2.length) (c:=co31) ?_).2.2;exact ((Kd.R_mono (mf_ HO_6 BK183) (fun _ h_=>h_.1))));(case side2=>exact (Kd.R_reads' HO_6.out).2.1);rintro e w' ⟨rfl,⟨nd,rfl⟩⟩;(try first|exact ⟨rfl,_,World.drewN_drewN _ _ _⟩|exact ⟨rfl,_,Eq.trans (World.drewN_drewN _ _ _) (congrArg (World.drewN _) (Nat.add_assoc _ _ _))⟩)));repeat (go_quiet (first|(go_at_call 91;(with_reducible refine (spec_l2Is.calls k2 ((rd_T134 ((rd_T101 l0_2 x16_1).f2) x27_2).f2) _ _ x6_2 t184 _ ?side1 ?side2 A27.out).mono ?_);(case side1=>refine (Kd.R_reads' (e:=9) (base:=w.heap.size) (ok:=fun k_=>some k_≠(.slice Ao12 x3_1.length co12:Value).ownBlock) (n:=x6_2.length) (c:=co31) ?_).2.2;exact ((Kd.R_mono (mf_ HO_6 BK183) (fun _ h_=>h_.1))));(case side2=>exact (Kd.R_reads' HO_6.out).2.1);rintro e w' ⟨rfl,⟨nd,rfl⟩⟩;(try first|exact ⟨rfl,_,World.drewN_drewN _ _ _⟩|exact ⟨rfl,_,Eq.trans (World.drewN_drewN _ _ _) (congrArg (World.drewN _) (Nat.add_assoc _ _ _))⟩)));try go_wp2_with (first|(go_at_call 91;(with_reducible refine (spec_l2Is.calls k2 ((rd_T134 ((rd_T101 l0_2 x16_1).f2) x27_2).f2) _ _ x6_2 t184 _ ?side1 ?side2 A27.out).mono ?_);(case side1=>refine (Kd.R_reads' (e:=9) (base:=w.heap.size) (ok:=fun k_=>some k_≠(.slice Ao12 x3_1.length co12:Value).ownBlock) (n:=x6_2.length) (c:=co31) ?_).2.2;exact ((Kd.R_mono (mf_ HO_6 BK183) (fun _ h_=>h_.1))));(case side2=>exact (Kd.R_reads' HO_6.out).2.1);rintro e w' ⟨rfl,⟨nd,rfl⟩⟩;(try first|exact ⟨rfl,_,World.drewN_drewN _ _ _⟩|exact ⟨rfl,_,Eq.trans (World.drewN_drewN _ _ _) (congrArg (World.drewN _) (Nat.add_assoc _ _ _))⟩))))
      go_meet
      case rel=>exact ⟨_,(!t184),mq_,H',⟨by have:=HK1.out;have:=HK2.out;first|omega|exact Nat.le_refl _⟩,⟨(Kd.R_mono (mf_ HO_3 BK183) (fun _ hk=>hk.1))⟩,⟨(Kd.R_mono (mf_ HO_6 BK183) (fun _ hk=>hk.1))⟩,⟨mc_ BK176⟩,⟨mc_ BK178⟩,⟨mp_ BK183⟩,⟨mb_ HB⟩⟩
    ·rw [if_neg c22] at H;obtain ⟨c22b0,c22b1⟩:=bn_ c22;(first|rw [c22b0]|(simp only [i64_w,i32_w];rw [c22b0])|skip);have H':=a_ H;clear H;have nNB183_176:=NB183_176.out;have nNB176_183:=NB176_183.out;have nNB183_178:=NB183_178.out;have nNB178_183:=NB178_183.out;replace hz183:=cz6 BK183;go_wp2;repeat (go_quiet (fail);try go_wp2)
     go_meet
     case rel=>exact u8ee_0
   clear HC17;(try clear c14b0);(try clear c15b0);(try clear c16b0);(try clear hx182_0);(try clear hx182_1);(try clear hx182_2);(try clear hx182_3);(try clear hx182_4);(try clear hx182_5);(try clear p182);(try clear q182);obtain ⟨kq,x45_16,rfl,HA,HJ16,HO_3,HO_6,BK176,BK178,BK183,HB⟩:=hcut;obtain _|kj16:=kq
   ·exact absurd HA.out (by simp [spec_l2Scope.j2])
   have H:=HA.out;clear HA;simp only [spec_l2Scope.j2] at H;by_cases c35:x45_16=true
   ·subst c35;rw [if_pos rfl] at H;obtain rfl:=oi_ H;go_wp2;repeat (go_quiet (fail);try go_wp2)
    go_ret;exact ⟨me_,mb_ HB⟩
   ·replace c35:=Bool.eq_false_iff.mpr c35;subst c35;rw [if_neg (show ¬(false=true) by decide)] at H;by_cases c36:((rd_T134 ((rd_T101 l0_2 x16_1).f2) x27_2).f0)=2
    ·rw [if_pos c36] at H;obtain ⟨c36b0,c36b1⟩:=bq_ c36;clear c36;by_cases c37:x6_2.length<8796093022208
     case neg=>
      rw [if_neg c37] at H;cases H
     rw [if_pos c37] at H;have LMc37:=a_ c37;clear c37;obtain ⟨y185,hy185⟩:∃y_:List ByteArray,y_=(x6_2++[((rd_T134 ((rd_T101 l0_2 x16_1).f2) x27_2).f2)]):=⟨_,rfl⟩;rw [←hy185] at H;(try rw [Option.bind_some] at H);have Ny185:=a_ hy185;clear hy185;have H':=a_ H;clear H;have nNB183_176:=NB183_176.out;have nNB176_183:=NB176_183.out;have nNB183_178:=NB183_178.out;have nNB178_183:=NB178_183.out;replace hz183:=cz6 BK183;iterate 3 (go_wp2_with (first|((with_reducible refine gate_builtin (b:=.append) (xs:=#[.tmp 51,.tmp 54]) rfl ?_);at_builtin;refine Kd.R_append Kd.string (w0:=w) w.heap.size rfl (.tmp 51) (.tmp 54) 141 9 (.string ⟨#[]⟩) 16 rfl Tryz.underlying141 info9 rfl (by decide) (by omega) u6 x6_2 ((rd_T134 ((rd_T101 l0_2 x16_1).f2) x27_2).f2) [.string ((rd_T134 ((rd_T101 l0_2 x16_1).f2) x27_2).f2)] (fun k_=>some k_≠(.slice Ao12 x3_1.length co12:Value).ownBlock) (fun _=>False) rfl rfl ?aP (fun _ hk=>hk.elim) ?aF ?aO ?aB ?aS ?aL ?_;(case aP=>exact rfl);(case aB=>exact (mb_ HB));(case aF=>exact (fun k_ hk=>Kd.fresh' (Kd.R_lt (mo_ HO_3.out)) k_ hk));(case aO=>exact (mo_ HO_6.out));(case aS=>exact (below_size (mb_ HB)));(case aL=>have:=LMc37.out;omega);intro v186 w41 ho hb hg hat;rw [←Ny185.out] at ho;have HO187:=a_ (ho);replace HO_3:=a_ (Kd.R_after (ok:=(fun _=>True)) (mo_ (Kd.R_mono HO_3.out (fun _ hk=>⟨trivial,hk⟩))) hg hat);replace BK176:=a_ (blk_grown (mc_ BK176) hg (Kd.R_ne HO_6.out BK176.out (by decide)));replace BK178:=a_ (blk_grown (mc_ BK178) hg (Kd.R_ne HO_6.out BK178.out (by decide)));replace BK183:=a_ (blk_grown (mc_ BK183) hg (Kd.R_ne HO_6.out BK183.out (by decide)));replace HB:=a_ (hb);clear HO_6;clear ho hb hg hat));try go_quiet (fail))
     go_roundg kj16
     case measure=>
      have:=HK1.out
      have:=HK2.out
      have:=HJ16.out
      omega
     case rel=>exact ⟨(y185),(wrap64 (x27_2+1)),mq_,H',⟨by have:=HK1.out;have:=HK2.out;have:=HJ16.out;omega⟩,⟨mo_ (Kd.R_mono HO_3.out (fun _ hk=>hk.2))⟩,⟨mo_ HO187.out⟩,⟨mc_ BK176⟩,⟨mc_ BK178⟩,⟨mb_ HB⟩⟩
    ·rw [if_neg c36] at H;obtain ⟨c36b0,c36b1⟩:=bn_ c36;have H':=a_ H;clear H;have nNB183_176:=NB183_176.out;have nNB176_183:=NB176_183.out;have nNB183_178:=NB183_178.out;have nNB178_183:=NB178_183.out;replace hz183:=cz6 BK183;go_wp2;repeat (go_quiet (fail);try go_wp2)
     go_roundg kj16
     case measure=>
      have:=HK1.out
      have:=HK2.out
      have:=HJ16.out
      omega
     case rel=>exact ⟨(x6_2),(wrap64 (x27_2+1)),mq_,H',⟨by have:=HK1.out;have:=HK2.out;have:=HJ16.out;omega⟩,⟨mo_ HO_3.out⟩,⟨mo_ HO_6.out⟩,⟨mc_ BK176⟩,⟨mc_ BK178⟩,⟨mb_ HB⟩⟩
  ·rw [if_neg c14] at H;have c14b0:=cf_ c14;clear c14;by_cases c45:((rd_T101 l0_2 x16_1).f0)=true
   ·rw [if_pos c45] at H;have c45b0:((rd_T101 l0_2 x16_1).f0)=true:=c45
    clear c45;have H':=a_ H;clear H;have nNB178_176:=NB178_176.out;have nNB176_178:=NB176_178.out;replace hz178:=cz3 BK178;go_wp2;repeat (go_quiet (fail);try go_wp2)
    go_roundg k2
    case measure=>
     have:=HK1.out
     have:=HK2.out
     omega
    case rel=>exact ⟨(x3_1),(wrap64 (x16_1+1)),mq_,H',⟨by have:=HK1.out;have:=HK2.out;omega⟩,⟨mo_ (Kd.R_mono HO_3.out (fun _ hk=>trivial))⟩,⟨mc_ BK176⟩,⟨mb_ HB⟩⟩
   ·rw [if_neg c45] at H;have c45b0:((rd_T101 l0_2 x16_1).f0)=false:=by simpa using c45
    clear c45;have H':=a_ H;clear H;have nNB178_176:=NB178_176.out;have nNB176_178:=NB176_178.out;replace hz178:=cz3 BK178;go_wp2;repeat (go_quiet (fail);try go_wp2)
    go_roundg k2
    case measure=>
     have:=HK1.out
     have:=HK2.out
     omega
    case rel=>exact ⟨(x6_2),(wrap64 (x16_1+1)),mq_,H',⟨by have:=HK1.out;have:=HK2.out;omega⟩,⟨mo_ (Kd.R_mono HO_6.out (fun _ hk=>trivial))⟩,⟨mc_ BK176⟩,⟨mb_ HB⟩⟩
 ·rw [if_neg c4] at H;have c4b0:=cf_ c4;clear c4;have H':=a_ H;clear H;replace hz176:=cz5 BK176;go_wp2;repeat (go_quiet (fail);try go_wp2)
  go_loopg [65] k1 (fun kq v65 w'=>∃(x65_2:Int),v65=.int .i64 x65_2∧Aside0 (spec_l2Scope.l2 kq x3_1 l0_4 (l0_4.length:Int) x65_2 a0_0 a0_1 l0_2 l0_3 l0_4=some r)∧Aside0 (kq≤k1)∧Aside0 (Kd.R Kd.string 9 w' w.heap.size (fun _=>True) u3 x3_1)∧Aside0 (w'.heap[gb176]?=some (.cells #[.string a0_0,.int .i64 a0_1,(.slice A0_2 l0_2.length c0_2),(.slice A0_3 l0_3.length c0_3),(.slice A0_4 l0_4.length c0_4)] 58 (0,0)))∧Aside0 (Below w.heap.size w w'))
  case atStart=>exact ⟨(0),mq_,H',⟨Nat.le_refl _⟩,⟨mo_ HO_3.out⟩,⟨mc_ BK176⟩,⟨mb_ HB⟩⟩
  clear H';(try clear c4b0);obtain ⟨x65_2,rfl,HA,HK2,HO_3,BK176,HB⟩:=hrel;obtain _|k2:=gk
  ·exact absurd HA.out (by simp [spec_l2Scope.l2])
  have H:=HA.out;clear HA;simp only [spec_l2Scope.l2] at H;by_cases c51:x65_2<(l0_4.length:Int)
  ·rw [if_pos c51] at H;have c51b0:=ct_ c51;clear c51;by_cases c52:0≤x65_2
   case neg=>
    rw [if_neg c52] at H;cases H
   rw [if_pos c52] at H;have c52b0:=ct_ c52;clear c52;by_cases c53:x65_2<(l0_4.length:Int)
   case neg=>
    rw [if_neg c53] at H;cases H
   rw [if_pos c53] at H;have c53b0:=ct_ c53;clear c53;by_cases c54:(((rd_T108 l0_4 x65_2).f3).length:Int)=0
   ·rw [if_pos c54] at H;obtain ⟨c54b0,c54b1⟩:=bq_ c54;clear c54;have H':=a_ H;clear H;have p188:0≤(x65_2:Int):=md_
    have q188:x65_2<(l0_4.length:Int):=md_
    obtain ⟨ad188,A188_3,c188_3,e188,hx188_0,hx188_1,hx188_2,hx188_3,hl188_3,hi188_3⟩:=at_T108 HR0_4.out x65_2 p188 q188;cases e188;replace hx188_0:=mx_ HB hx188_0;replace hx188_1:=mx_ HB hx188_1;replace hx188_2:=mx_ HB hx188_2;replace hx188_3:=mx_ HB hx188_3;have HR188_3:=a_ hi188_3;have HC188_3:=a_ hl188_3;clear hi188_3 hl188_3;replace p188:=eq_true p188;replace q188:=eq_true q188;iterate 3 (go_wp2_with (first|((with_reducible refine gate_dst (N:=10) rfl ?_);refine bh_ 10 #[.int .i64 0,.int .i64 0,.string (⟨#[]⟩:ByteArray),.slice none 0 0] 108 HB ?_;intro gb189 hg w55 BK189 GE189 hb;have GW189:=mg_ HB hg;obtain ⟨NB176_189,NB189_176⟩:=mn_ BK176 hg;replace HO_3:=ro_ HO_3 hb;replace BK176:=mk_ BK176 hb;replace HB:=ms_ HB hb;clear hb hg;have nNB189_176:=NB189_176.out;have nNB176_189:=NB176_189.out;replace hz189:=cz4 BK189));try go_quiet (fail))
    go_roundg k2
    case measure=>
     have:=HK1.out
     have:=HK2.out
     omega
    case rel=>exact ⟨(wrap64 (x65_2+1)),mq_,H',⟨by have:=HK1.out;have:=HK2.out;omega⟩,⟨(Kd.R_mono (mf_ HO_3 BK189) (fun _ hk=>trivial))⟩,⟨mc_ BK176⟩,⟨mb_ HB⟩⟩
   ·rw [if_neg c54] at H;obtain ⟨c54b0,c54b1⟩:=bn_ c54;have c54b2:¬(((rd_T108 l0_4 x65_2).f3)=[]):=fun h_=>c54 (by rw [h_];rfl)
    by_cases c58:0<(((rd_T108 l0_4 x65_2).f3).length:Int)
    case neg=>
     rw [if_neg c58] at H;cases H
    rw [if_pos c58] at H;have c58b0:=ct_ c58;have c58b1:decide (0<((rd_T108 l0_4 x65_2).f3).length)=true:=decide_eq_true (by omega)
    clear c58;obtain ⟨t191,A59,H⟩:=ob_ H;have H':=a_ H;clear H;have p188:0≤(x65_2:Int):=md_
    have q188:x65_2<(l0_4.length:Int):=md_
    obtain ⟨ad188,A188_3,c188_3,e188,hx188_0,hx188_1,hx188_2,hx188_3,hl188_3,hi188_3⟩:=at_T108 HR0_4.out x65_2 p188 q188;cases e188;replace hx188_0:=mx_ HB hx188_0;replace hx188_1:=mx_ HB hx188_1;replace hx188_2:=mx_ HB hx188_2;replace hx188_3:=mx_ HB hx188_3;have HR188_3:=a_ hi188_3;have HC188_3:=a_ hl188_3;clear hi188_3 hl188_3;replace p188:=eq_true p188;replace q188:=eq_true q188;iterate 3 (go_wp2_with (first|((with_reducible refine gate_dst (N:=10) rfl ?_);refine bh_ 10 #[.int .i64 0,.int .i64 0,.string (⟨#[]⟩:ByteArray),.slice none 0 0] 108 HB ?_;intro gb189 hg w60 BK189 GE189 hb;have GW189:=mg_ HB hg;obtain ⟨NB176_189,NB189_176⟩:=mn_ BK176 hg;replace HO_3:=ro_ HO_3 hb;replace BK176:=mk_ BK176 hb;replace HB:=ms_ HB hb;clear hb hg;have nNB189_176:=NB189_176.out;have nNB176_189:=NB176_189.out;replace hz189:=cz4 BK189;replace hz176:=cz5 BK176;have p190:0≤(0:Int):=(by omega);have q190:0<(((rd_T108 l0_4 x65_2).f3).length:Int):=md_;obtain ⟨ad190,e190,hx190_0⟩:=Kd.at_int HR188_3.out 0 p190 q190;cases e190;have qi190:(0<((rd_T108 l0_4 x65_2).f3).length)=True:=eq_true (by omega);(try rw [show ((0:Int)).toNat=0 from rfl] at hx190_0);(try rw [Addr.add_zero'] at hx190_0);have hn190_0:ad190.block≠gb189:=Nat.ne_of_lt (Nat.lt_of_lt_of_le (by have:=World.block_lt_of_cell? _ _ hx190_0;first|rwa [add_block] at this|exact this) GW189.out);have hn190_1:ad190.block≠gb189:=Nat.ne_of_lt (Nat.lt_of_lt_of_le (by have:=World.block_lt_of_cell? _ _ hx190_0;first|rwa [add_block] at this|exact this) GW189.out);have hn190_2:ad190.block≠gb189:=Nat.ne_of_lt (Nat.lt_of_lt_of_le (by have:=World.block_lt_of_cell? _ _ hx190_0;first|rwa [add_block] at this|exact this) GW189.out);have hn190_3:ad190.block≠gb189:=Nat.ne_of_lt (Nat.lt_of_lt_of_le (by have:=World.block_lt_of_cell? _ _ hx190_0;first|rwa [add_block] at this|exact this) GW189.out);replace hx190_0:=mx_ HB hx190_0;replace hx190_0:=(cell_far (p:=⟨gb189,0,none⟩) (by first|(rw [add_block];exact hn190_0)|(show (Addr.add _ _).block≠_;rw [add_block];exact hn190_0)|exact hn190_0) (.int .i64 ((rd_T108 l0_4 x65_2).f0))).trans hx190_0;replace hx190_0:=(cell_far (p:=⟨gb189,1,none⟩) (by first|(rw [add_block];exact hn190_1)|(show (Addr.add _ _).block≠_;rw [add_block];exact hn190_1)|exact hn190_1) (.int .i64 ((rd_T108 l0_4 x65_2).f1))).trans hx190_0;replace hx190_0:=(cell_far (p:=⟨gb189,2,none⟩) (by first|(rw [add_block];exact hn190_2)|(show (Addr.add _ _).block≠_;rw [add_block];exact hn190_2)|exact hn190_2) (.string ((rd_T108 l0_4 x65_2).f2))).trans hx190_0;replace hx190_0:=(cell_far (p:=⟨gb189,3,none⟩) (by first|(rw [add_block];exact hn190_3)|(show (Addr.add _ _).block≠_;rw [add_block];exact hn190_3)|exact hn190_3) (.slice (some ad190) ((rd_T108 l0_4 x65_2).f3).length c188_3)).trans hx190_0;(try have hy190_0:=fun (n_:Nat)=>(show ((((((w60.drewN n_).setCell ⟨gb189,0,none⟩ (.int .i64 ((rd_T108 l0_4 x65_2).f0))).setCell ⟨gb189,1,none⟩ (.int .i64 ((rd_T108 l0_4 x65_2).f1))).setCell ⟨gb189,2,none⟩ (.string ((rd_T108 l0_4 x65_2).f2))).setCell ⟨gb189,3,none⟩ (.slice (some ad190) ((rd_T108 l0_4 x65_2).f3).length c188_3))).cell? _=some _ from hx190_0));clear hn190_0;clear hn190_1;clear hn190_2;clear hn190_3;replace p190:=eq_true p190;replace q190:=eq_true q190)|(go_at_call 92;(with_reducible refine (spec_l2First.calls k2 _ _ l0_3 (rd ((rd_T108 l0_4 x65_2).f3) 0) t191 _ ?side1 HC0_3.out A59.out).mono ?_);(case side1=>exact Kd.C_below HR0_3.out (mb_ HB));rintro e w' ⟨rfl,⟨nd,rfl⟩⟩;(try first|exact ⟨rfl,_,World.drewN_drewN _ _ _⟩|exact ⟨rfl,_,Eq.trans (World.drewN_drewN _ _ _) (congrArg (World.drewN _) (Nat.add_assoc _ _ _))⟩)));try go_quiet (first|(go_at_call 92;(with_reducible refine (spec_l2First.calls k2 _ _ l0_3 (rd ((rd_T108 l0_4 x65_2).f3) 0) t191 _ ?side1 HC0_3.out A59.out).mono ?_);(case side1=>exact Kd.C_below HR0_3.out (mb_ HB));rintro e w' ⟨rfl,⟨nd,rfl⟩⟩;(try first|exact ⟨rfl,_,World.drewN_drewN _ _ _⟩|exact ⟨rfl,_,Eq.trans (World.drewN_drewN _ _ _) (congrArg (World.drewN _) (Nat.add_assoc _ _ _))⟩))))
    go_loopg [11] k2 (fun kq v11 w'=>∃(x11_3:Int),v11=.int .i64 x11_3∧Aside0 (spec_l2Scope.l3 kq x3_1 x65_2 x11_3 l0_4 (l0_4.length:Int) x65_2 a0_0 a0_1 l0_2 l0_3 l0_4 ((rd_T108 l0_4 x65_2).f0) ((rd_T108 l0_4 x65_2).f1) ((rd_T108 l0_4 x65_2).f2) ((rd_T108 l0_4 x65_2).f3)=some r)∧Aside0 (kq≤k2)∧Aside0 (Kd.R Kd.string 9 w' w.heap.size (fun _=>True) u3 x3_1)∧Aside0 (w'.heap[gb176]?=some (.cells #[.string a0_0,.int .i64 a0_1,(.slice A0_2 l0_2.length c0_2),(.slice A0_3 l0_3.length c0_3),(.slice (some ad188) l0_4.length c0_4)] 58 (0,0)))∧Aside0 (w'.heap[gb189]?=some (.cells #[.int .i64 ((rd_T108 l0_4 x65_2).f0),.int .i64 ((rd_T108 l0_4 x65_2).f1),.string ((rd_T108 l0_4 x65_2).f2),(.slice (some ad190) ((rd_T108 l0_4 x65_2).f3).length c188_3)] 108 (0,0)))∧Aside0 (Below w.heap.size w w'))
    case atStart=>exact ⟨(t191),mq_,H',⟨Nat.le_refl _⟩,⟨(Kd.R_mono (mf_ HO_3 BK189) (fun _ hk=>trivial))⟩,⟨mc_ BK176⟩,⟨mp_ BK189⟩,⟨mb_ HB⟩⟩
    clear H';(try clear c51b0);(try clear c52b0);(try clear c53b0);(try clear c54b0);(try clear c54b1);(try clear c54b2);(try clear c58b0);(try clear c58b1);(try clear hx188_0);(try clear hx188_1);(try clear hx188_2);(try clear hx188_3);(try clear hx190_0);(try clear p188);(try clear p190);(try clear q188);(try clear q190);obtain ⟨x11_3,rfl,HA,HK3,HO_3,BK176,BK189,HB⟩:=hrel;obtain _|k3:=gk
    ·exact absurd HA.out (by simp [spec_l2Scope.l3])
    have H:=HA.out;clear HA;simp only [spec_l2Scope.l3] at H;obtain ⟨ji64,hji64⟩:∃j_:Int,(wrap64 ((((rd_T108 l0_4 x65_2).f3).length:Int)-1))=j_:=⟨_,rfl⟩;replace H:(if 0≤(ji64) then (if (ji64)<(((rd_T108 l0_4 x65_2).f3).length:Int) then (if x11_3≤(rd ((rd_T108 l0_4 x65_2).f3) (ji64)) then (if 0≤x11_3 then (if x11_3<(l0_3.length:Int) then (if ((rd_T106 l0_3 x11_3).f0)=1 then ((spec_l2Is.f k3 ((rd_T106 l0_3 x11_3).f2) x3_1).bind fun t195=>(if t195=true then (spec_l2Scope.l3 k3 x3_1 x65_2 (wrap64 (x11_3+1)) l0_4 (l0_4.length:Int) x65_2 a0_0 a0_1 l0_2 l0_3 l0_4 ((rd_T108 l0_4 x65_2).f0) ((rd_T108 l0_4 x65_2).f1) ((rd_T108 l0_4 x65_2).f2) ((rd_T108 l0_4 x65_2).f3)) else (some (wrap64 ((wrap64 ((l0_2.length:Int)+x65_2))+1))))) else (spec_l2Scope.l3 k3 x3_1 x65_2 (wrap64 (x11_3+1)) l0_4 (l0_4.length:Int) x65_2 a0_0 a0_1 l0_2 l0_3 l0_4 ((rd_T108 l0_4 x65_2).f0) ((rd_T108 l0_4 x65_2).f1) ((rd_T108 l0_4 x65_2).f2) ((rd_T108 l0_4 x65_2).f3))) else (none)) else (none)) else (spec_l2Scope.l2 k3 x3_1 l0_4 (l0_4.length:Int) (wrap64 (x65_2+1)) a0_0 a0_1 l0_2 l0_3 l0_4)) else (none)) else (none))=some r:=by first|(rw [hji64] at H;exact H)|(simp only [hji64] at H ⊢;exact H)
    have hji64w:(IntKind.i64.wrap ((((rd_T108 l0_4 x65_2).f3).length:Int)-1))=ji64:=(i64_w _).trans hji64
    by_cases c65:0≤(ji64)
    case neg=>
     rw [if_neg c65] at H;cases H
    rw [if_pos c65] at H;have c65b0:=ct_ c65;clear c65;by_cases c66:(ji64)<(((rd_T108 l0_4 x65_2).f3).length:Int)
    case neg=>
     rw [if_neg c66] at H;cases H
    rw [if_pos c66] at H;have c66b0:=ct_ c66;clear c66;by_cases c67:x11_3≤(rd ((rd_T108 l0_4 x65_2).f3) (ji64))
    ·rw [if_pos c67] at H;have c67b0:=ct_ c67;clear c67;by_cases c68:0≤x11_3
     case neg=>
      rw [if_neg c68] at H;cases H
     rw [if_pos c68] at H;have c68b0:=ct_ c68;clear c68;by_cases c69:x11_3<(l0_3.length:Int)
     case neg=>
      rw [if_neg c69] at H;cases H
     rw [if_pos c69] at H;have c69b0:=ct_ c69;clear c69;by_cases c70:((rd_T106 l0_3 x11_3).f0)=1
     ·rw [if_pos c70] at H;obtain ⟨c70b0,c70b1⟩:=bq_ c70;clear c70;obtain ⟨t195,A71,H⟩:=ob_ H;by_cases c72:t195=true
      ·subst c72;rw [if_pos rfl] at H;have H':=a_ H;clear H;have nNB189_176:=NB189_176.out;have nNB176_189:=NB176_189.out;replace hz189:=cz4 BK189;have p192:0≤((ji64):Int):=md_
       have q192:(ji64)<(((rd_T108 l0_4 x65_2).f3).length:Int):=md_
       obtain ⟨ad192,e192,hx192_0⟩:=Kd.at_int HR188_3.out (ji64) p192 q192;obtain rfl:ad190=ad192:=(by injection e192);replace hx192_0:=mx_ HB hx192_0;replace p192:=eq_true p192;replace q192:=eq_true q192;replace hz176:=cz5 BK176;have p193:0≤(x11_3:Int):=md_
       have q193:x11_3<(l0_3.length:Int):=md_
       obtain ⟨ad193,e193,hx193_0,hx193_1,hx193_2,hx193_3,hx193_4,hx193_5,hx193_6,hx193_7⟩:=at_T106 HR0_3.out x11_3 p193 q193;cases e193;replace hx193_0:=mx_ HB hx193_0;replace hx193_1:=mx_ HB hx193_1;replace hx193_2:=mx_ HB hx193_2;replace hx193_3:=mx_ HB hx193_3;replace hx193_4:=mx_ HB hx193_4;replace hx193_5:=mx_ HB hx193_5;replace hx193_6:=mx_ HB hx193_6;replace hx193_7:=mx_ HB hx193_7;replace p193:=eq_true p193;replace q193:=eq_true q193;iterate 3 (go_wp2_with (first|((with_reducible refine gate_dst (N:=12) rfl ?_);refine bh_ 12 #[.int .i64 0,.int .u8 0,.string (⟨#[]⟩:ByteArray),.int .i64 0,.int .i64 0,.string (⟨#[]⟩:ByteArray),.int .i64 0,.int .i64 0] 106 HB ?_;intro gb194 hg w76 BK194 GE194 hb;obtain ⟨NB176_194,NB194_176⟩:=mn_ BK176 hg;obtain ⟨NB189_194,NB194_189⟩:=mn_ BK189 hg;replace HO_3:=ro_ HO_3 hb;replace BK176:=mk_ BK176 hb;replace BK189:=mk_ BK189 hb;replace HB:=ms_ HB hb;clear hb hg;have nNB194_176:=NB194_176.out;have nNB176_194:=NB176_194.out;have nNB194_189:=NB194_189.out;have nNB189_194:=NB189_194.out;replace hz194:=cz8 BK194;obtain ⟨Ao80,co80,eo80⟩:=Kd.R_slice HO_3.out;subst eo80)|(go_at_call 91;(with_reducible refine (spec_l2Is.calls k3 ((rd_T106 l0_3 x11_3).f2) _ _ x3_1 true _ ?side1 ?side2 A71.out).mono ?_);(case side1=>refine (Kd.R_reads' (e:=9) (base:=w.heap.size) (ok:=fun k_=>True) (n:=x3_1.length) (c:=co80) ?_).2.2;exact ((Kd.R_mono (mf_ HO_3 BK194) (fun _ h_=>h_.1))));(case side2=>exact (Kd.R_reads' HO_3.out).2.1);rintro e w' ⟨rfl,⟨nd,rfl⟩⟩;(try first|exact ⟨rfl,_,World.drewN_drewN _ _ _⟩|exact ⟨rfl,_,Eq.trans (World.drewN_drewN _ _ _) (congrArg (World.drewN _) (Nat.add_assoc _ _ _))⟩)));try go_quiet (first|(go_at_call 91;(with_reducible refine (spec_l2Is.calls k3 ((rd_T106 l0_3 x11_3).f2) _ _ x3_1 true _ ?side1 ?side2 A71.out).mono ?_);(case side1=>refine (Kd.R_reads' (e:=9) (base:=w.heap.size) (ok:=fun k_=>True) (n:=x3_1.length) (c:=co80) ?_).2.2;exact ((Kd.R_mono (mf_ HO_3 BK194) (fun _ h_=>h_.1))));(case side2=>exact (Kd.R_reads' HO_3.out).2.1);rintro e w' ⟨rfl,⟨nd,rfl⟩⟩;(try first|exact ⟨rfl,_,World.drewN_drewN _ _ _⟩|exact ⟨rfl,_,Eq.trans (World.drewN_drewN _ _ _) (congrArg (World.drewN _) (Nat.add_assoc _ _ _))⟩))))
       go_roundg k3
       case measure=>
        have:=HK1.out
        have:=HK2.out
        have:=HK3.out
        omega
       case rel=>exact u8ee_1
      ·replace c72:=Bool.eq_false_iff.mpr c72;subst c72;rw [if_neg (show ¬(false=true) by decide)] at H;obtain rfl:=oi_ H;have nNB189_176:=NB189_176.out;have nNB176_189:=NB176_189.out;replace hz189:=cz4 BK189;have p192:0≤((ji64):Int):=md_
       have q192:(ji64)<(((rd_T108 l0_4 x65_2).f3).length:Int):=md_
       obtain ⟨ad192,e192,hx192_0⟩:=Kd.at_int HR188_3.out (ji64) p192 q192;obtain rfl:ad190=ad192:=(by injection e192);replace hx192_0:=mx_ HB hx192_0;replace p192:=eq_true p192;replace q192:=eq_true q192;replace hz176:=cz5 BK176;have p193:0≤(x11_3:Int):=md_
       have q193:x11_3<(l0_3.length:Int):=md_
       obtain ⟨ad193,e193,hx193_0,hx193_1,hx193_2,hx193_3,hx193_4,hx193_5,hx193_6,hx193_7⟩:=at_T106 HR0_3.out x11_3 p193 q193;cases e193;replace hx193_0:=mx_ HB hx193_0;replace hx193_1:=mx_ HB hx193_1;replace hx193_2:=mx_ HB hx193_2;replace hx193_3:=mx_ HB hx193_3;replace hx193_4:=mx_ HB hx193_4;replace hx193_5:=mx_ HB hx193_5;replace hx193_6:=mx_ HB hx193_6;replace hx193_7:=mx_ HB hx193_7;replace p193:=eq_true p193;replace q193:=eq_true q193;iterate 3 (go_wp2_with (first|((with_reducible refine gate_dst (N:=12) rfl ?_);refine bh_ 12 #[.int .i64 0,.int .u8 0,.string (⟨#[]⟩:ByteArray),.int .i64 0,.int .i64 0,.string (⟨#[]⟩:ByteArray),.int .i64 0,.int .i64 0] 106 HB ?_;intro gb194 hg w84 BK194 GE194 hb;obtain ⟨NB176_194,NB194_176⟩:=mn_ BK176 hg;obtain ⟨NB189_194,NB194_189⟩:=mn_ BK189 hg;replace HO_3:=ro_ HO_3 hb;replace BK176:=mk_ BK176 hb;replace BK189:=mk_ BK189 hb;replace HB:=ms_ HB hb;clear hb hg;have nNB194_176:=NB194_176.out;have nNB176_194:=NB176_194.out;have nNB194_189:=NB194_189.out;have nNB189_194:=NB189_194.out;replace hz194:=cz8 BK194;obtain ⟨Ao88,co88,eo88⟩:=Kd.R_slice HO_3.out;subst eo88)|(go_at_call 91;(with_reducible refine (spec_l2Is.calls k3 ((rd_T106 l0_3 x11_3).f2) _ _ x3_1 false _ ?side1 ?side2 A71.out).mono ?_);(case side1=>refine (Kd.R_reads' (e:=9) (base:=w.heap.size) (ok:=fun k_=>True) (n:=x3_1.length) (c:=co88) ?_).2.2;exact ((Kd.R_mono (mf_ HO_3 BK194) (fun _ h_=>h_.1))));(case side2=>exact (Kd.R_reads' HO_3.out).2.1);rintro e w' ⟨rfl,⟨nd,rfl⟩⟩;(try first|exact ⟨rfl,_,World.drewN_drewN _ _ _⟩|exact ⟨rfl,_,Eq.trans (World.drewN_drewN _ _ _) (congrArg (World.drewN _) (Nat.add_assoc _ _ _))⟩);replace hz176:=cz5 BK176));try go_quiet (first|(go_at_call 91;(with_reducible refine (spec_l2Is.calls k3 ((rd_T106 l0_3 x11_3).f2) _ _ x3_1 false _ ?side1 ?side2 A71.out).mono ?_);(case side1=>refine (Kd.R_reads' (e:=9) (base:=w.heap.size) (ok:=fun k_=>True) (n:=x3_1.length) (c:=co88) ?_).2.2;exact ((Kd.R_mono (mf_ HO_3 BK194) (fun _ h_=>h_.1))));(case side2=>exact (Kd.R_reads' HO_3.out).2.1);rintro e w' ⟨rfl,⟨nd,rfl⟩⟩;(try first|exact ⟨rfl,_,World.drewN_drewN _ _ _⟩|exact ⟨rfl,_,Eq.trans (World.drewN_drewN _ _ _) (congrArg (World.drewN _) (Nat.add_assoc _ _ _))⟩);replace hz176:=cz5 BK176)))
       go_ret;exact ⟨by first|rfl|(simp [errW_none,errW_some]<;>rfl)|(simp only [←hji64];first|rfl|(simp [errW_none,errW_some]<;>rfl))|(simp [*,errW_none,errW_some]<;>rfl),mb_ HB⟩
     ·rw [if_neg c70] at H;obtain ⟨c70b0,c70b1⟩:=bn_ c70;have H':=a_ H;clear H;have nNB189_176:=NB189_176.out;have nNB176_189:=NB176_189.out;replace hz189:=cz4 BK189;have p192:0≤((ji64):Int):=md_
      have q192:(ji64)<(((rd_T108 l0_4 x65_2).f3).length:Int):=md_
      obtain ⟨ad192,e192,hx192_0⟩:=Kd.at_int HR188_3.out (ji64) p192 q192;obtain rfl:ad190=ad192:=(by injection e192);replace hx192_0:=mx_ HB hx192_0;replace p192:=eq_true p192;replace q192:=eq_true q192;replace hz176:=cz5 BK176;have p193:0≤(x11_3:Int):=md_
      have q193:x11_3<(l0_3.length:Int):=md_
      obtain ⟨ad193,e193,hx193_0,hx193_1,hx193_2,hx193_3,hx193_4,hx193_5,hx193_6,hx193_7⟩:=at_T106 HR0_3.out x11_3 p193 q193;cases e193;replace hx193_0:=mx_ HB hx193_0;replace hx193_1:=mx_ HB hx193_1;replace hx193_2:=mx_ HB hx193_2;replace hx193_3:=mx_ HB hx193_3;replace hx193_4:=mx_ HB hx193_4;replace hx193_5:=mx_ HB hx193_5;replace hx193_6:=mx_ HB hx193_6;replace hx193_7:=mx_ HB hx193_7;replace p193:=eq_true p193;replace q193:=eq_true q193;iterate 3 (go_wp2_with (first|((with_reducible refine gate_dst (N:=12) rfl ?_);refine bh_ 12 #[.int .i64 0,.int .u8 0,.string (⟨#[]⟩:ByteArray),.int .i64 0,.int .i64 0,.string (⟨#[]⟩:ByteArray),.int .i64 0,.int .i64 0] 106 HB ?_;intro gb194 hg w93 BK194 GE194 hb;obtain ⟨NB176_194,NB194_176⟩:=mn_ BK176 hg;obtain ⟨NB189_194,NB194_189⟩:=mn_ BK189 hg;replace HO_3:=ro_ HO_3 hb;replace BK176:=mk_ BK176 hb;replace BK189:=mk_ BK189 hb;replace HB:=ms_ HB hb;clear hb hg;have nNB194_176:=NB194_176.out;have nNB176_194:=NB176_194.out;have nNB194_189:=NB194_189.out;have nNB189_194:=NB189_194.out;replace hz194:=cz8 BK194));try go_quiet (fail))
      go_roundg k3
      case measure=>
       have:=HK1.out
       have:=HK2.out
       have:=HK3.out
       omega
      case rel=>exact u8ee_1
    ·rw [if_neg c67] at H;have c67b0:=cf_ c67;clear c67;have H':=a_ H;clear H;have nNB189_176:=NB189_176.out;have nNB176_189:=NB176_189.out;replace hz189:=cz4 BK189;have p192:0≤((ji64):Int):=md_
     have q192:(ji64)<(((rd_T108 l0_4 x65_2).f3).length:Int):=md_
     obtain ⟨ad192,e192,hx192_0⟩:=Kd.at_int HR188_3.out (ji64) p192 q192;obtain rfl:ad190=ad192:=(by injection e192);replace hx192_0:=mx_ HB hx192_0;replace p192:=eq_true p192;replace q192:=eq_true q192;go_wp2;repeat (go_quiet (fail);try go_wp2)
     go_roundg k3
     case measure=>
      have:=HK1.out
      have:=HK2.out
      have:=HK3.out
      omega
     case rel=>exact ⟨(wrap64 (x65_2+1)),mq_,H',⟨by have:=HK1.out;have:=HK2.out;have:=HK3.out;omega⟩,⟨mo_ HO_3.out⟩,⟨mc_ BK176⟩,⟨mb_ HB⟩⟩
  ·rw [if_neg c51] at H;have c51b0:=cf_ c51;clear c51;obtain rfl:=oi_ H;go_wp2;repeat (go_quiet (fail);try go_wp2)
   go_ret;exact ⟨me_,mb_ HB⟩
end Go.Proofs.YtejjlkbbnhpbdaaGreat.P
namespace Go.Proofs.YtejjlkbbnhpbdaaGreat.P
open Go.Proofs.YtejjlkbbnhpbdaaGreatX
open Go.RowKit Go.Proofs.YtejjlkbbnhpbdaaGreatW.PrintWords Go.Proofs.YtejjlkbbnhpbdaaGreatW.PrintLast Go.Proofs.YtejjlkbbnhpbdaaGreatW.PrintMore
attribute [local go_sem] max2_int min2_int max_two min_two max_three min_three max_four min_four
set_option linter.unusedVariables false
set_option linter.unusedSimpArgs false
mutual
def spec_CheckRules.l0:Nat→List (S58)→List (S58)→Int→Int→Option (Int×Int×Int)
 | 0,_,_,_,_=>none
 | k+1,x0,x15,x16,x17=>if x17<x16 then (if 0≤x17 then (if x17<(x15.length:Int) then ((spec_l2Shape.f k ((rd_T58 x15 x17).f0) ((rd_T58 x15 x17).f1) ((rd_T58 x15 x17).f2) ((rd_T58 x15 x17).f3) ((rd_T58 x15 x17).f4)).bind fun t199=>(if t199≥0 then (some (1,x17,t199)) else (if x17≤(x0.length:Int) then ((some (x0.take (x17:Int).toNat:List (S58))).bind fun y200=>(spec_CheckRules.l1 k x0 x17 x15 x16 x17 y200 (y200.length:Int) 0 ((rd_T58 x15 x17).f0) ((rd_T58 x15 x17).f1) ((rd_T58 x15 x17).f2) ((rd_T58 x15 x17).f3) ((rd_T58 x15 x17).f4))) else (none)))) else (none)) else (none)) else (some (0,0,0))
def spec_CheckRules.l1:Nat→List (S58)→Int→List (S58)→Int→Int→List (S58)→Int→Int→ByteArray→Int→List (S101)→List (S106)→List (S108)→Option (Int×Int×Int)
 | 0,_,_,_,_,_,_,_,_,_,_,_,_,_=>none
 | k+1,x0,x3,x15,x16,x17,x31,x32,x33,x199000,x199001,x199002,x199003,x199004=>if x33<x32 then (if 0≤x33 then (if x33<(x31.length:Int) then (if ((rd_T58 x31 x33).f0).toList=x199000.toList then (some (2,x3,0)) else (spec_CheckRules.l1 k x0 x3 x15 x16 x17 x31 x32 (wrap64 (x33+1)) x199000 x199001 x199002 x199003 x199004)) else (none)) else (none)) else ((spec_l2Positive.f k x199000 x199001 x199002 x199003 x199004).bind fun t206=>(if t206<1 then (spec_CheckRules.j2 k x0 x3 t206 x15 x16 x17 true x199000 x199001 x199002 x199003 x199004) else (spec_CheckRules.j2 k x0 x3 t206 x15 x16 x17 (decide (t206>3)) x199000 x199001 x199002 x199003 x199004)))
def spec_CheckRules.j2:Nat→List (S58)→Int→Int→List (S58)→Int→Int→Bool→ByteArray→Int→List (S101)→List (S106)→List (S108)→Option (Int×Int×Int)
 | 0,_,_,_,_,_,_,_,_,_,_,_,_=>none
 | k+1,x0,x3,x8,x15,x16,x17,x52,x199000,x199001,x199002,x199003,x199004=>if x52=true then (some (3,x3,0)) else ((spec_l2Scope.f k x199000 x199001 x199002 x199003 x199004).bind fun t207=>(if t207≥0 then (some (4,x3,t207)) else (spec_CheckRules.l2 k x0 x3 x8 x15 x16 x17 x199004 (x199004.length:Int) 0 x199000 x199001 x199002 x199003 x199004)))
def spec_CheckRules.l2:Nat→List (S58)→Int→Int→List (S58)→Int→Int→List (S108)→Int→Int→ByteArray→Int→List (S101)→List (S106)→List (S108)→Option (Int×Int×Int)
 | 0,_,_,_,_,_,_,_,_,_,_,_,_,_,_=>none
 | k+1,x0,x3,x8,x15,x16,x17,x63,x64,x65,x199000,x199001,x199002,x199003,x199004=>if x65<x64 then (if 0≤x65 then (if x65<(x63.length:Int) then (if ((rd_T108 x63 x65).f0)=2 then (if ((rd_T108 x63 x65).f1)<1 then (some (5,x3,wrap64 ((wrap64 ((x199002.length:Int)+x65))+1))) else (if ((rd_T108 x63 x65).f1)>x8 then (some (5,x3,wrap64 ((wrap64 ((x199002.length:Int)+x65))+1))) else (spec_CheckRules.l2 k x0 x3 x8 x15 x16 x17 x63 x64 (wrap64 (x65+1)) x199000 x199001 x199002 x199003 x199004))) else (if ((rd_T108 x63 x65).f0)=3 then (if ((rd_T108 x63 x65).f1)<1 then (some (5,x3,wrap64 ((wrap64 ((x199002.length:Int)+x65))+1))) else (if ((rd_T108 x63 x65).f1)>x8 then (some (5,x3,wrap64 ((wrap64 ((x199002.length:Int)+x65))+1))) else (spec_CheckRules.l2 k x0 x3 x8 x15 x16 x17 x63 x64 (wrap64 (x65+1)) x199000 x199001 x199002 x199003 x199004))) else (spec_CheckRules.l2 k x0 x3 x8 x15 x16 x17 x63 x64 (wrap64 (x65+1)) x199000 x199001 x199002 x199003 x199004))) else (none)) else (none)) else (spec_CheckRules.l0 k x0 x15 x16 (wrap64 (x17+1)))
end
def spec_CheckRules.f (k:Nat) (l0:List (S58)):Option (Int×Int×Int):=if (l0.length:Int)>16 then (some (1,0,0)) else (spec_CheckRules.l0 k l0 l0 (l0.length:Int) 0)
theorem spec_CheckRules.mono_l:∀k,(∀y0 y1 y2 y3,LeO (spec_CheckRules.l0 k y0 y1 y2 y3) (spec_CheckRules.l0 (k+1) y0 y1 y2 y3))∧(∀y0 y1 y2 y3 y4 y5 y6 y7 y8 y9 y10 y11 y12,LeO (spec_CheckRules.l1 k y0 y1 y2 y3 y4 y5 y6 y7 y8 y9 y10 y11 y12) (spec_CheckRules.l1 (k+1) y0 y1 y2 y3 y4 y5 y6 y7 y8 y9 y10 y11 y12))∧(∀y0 y1 y2 y3 y4 y5 y6 y7 y8 y9 y10 y11,LeO (spec_CheckRules.j2 k y0 y1 y2 y3 y4 y5 y6 y7 y8 y9 y10 y11) (spec_CheckRules.j2 (k+1) y0 y1 y2 y3 y4 y5 y6 y7 y8 y9 y10 y11))∧(∀y0 y1 y2 y3 y4 y5 y6 y7 y8 y9 y10 y11 y12 y13,LeO (spec_CheckRules.l2 k y0 y1 y2 y3 y4 y5 y6 y7 y8 y9 y10 y11 y12 y13) (spec_CheckRules.l2 (k+1) y0 y1 y2 y3 y4 y5 y6 y7 y8 y9 y10 y11 y12 y13))
 | 0=>⟨fun _ _ _ _ r h=>by simp [spec_CheckRules.l0] at h,fun _ _ _ _ _ _ _ _ _ _ _ _ _ r h=>by simp [spec_CheckRules.l1] at h,fun _ _ _ _ _ _ _ _ _ _ _ _ r h=>by simp [spec_CheckRules.j2] at h,fun _ _ _ _ _ _ _ _ _ _ _ _ _ _ r h=>by simp [spec_CheckRules.l2] at h⟩
 | k+1=>by
  obtain ⟨ih0,ih1,ih2,ih3⟩:=spec_CheckRules.mono_l k;refine ⟨?_,?_,?_,?_⟩
  ·intro y0 y1 y2 y3;unfold spec_CheckRules.l0
   repeat' with_reducible first|apply ih0|apply ih1|apply ih2|apply ih3|apply spec_l2Positive.mono|apply spec_l2Scope.mono|apply spec_l2Shape.mono|apply LeO.refl|apply LeO.none|refine LeO.ite ?_ ?_|refine LeO.bind ?_ (fun _=>?_)
  ·intro y0 y1 y2 y3 y4 y5 y6 y7 y8 y9 y10 y11 y12;unfold spec_CheckRules.l1
   repeat' with_reducible first|apply ih0|apply ih1|apply ih2|apply ih3|apply spec_l2Positive.mono|apply spec_l2Scope.mono|apply spec_l2Shape.mono|apply LeO.refl|apply LeO.none|refine LeO.ite ?_ ?_|refine LeO.bind ?_ (fun _=>?_)
  ·intro y0 y1 y2 y3 y4 y5 y6 y7 y8 y9 y10 y11;unfold spec_CheckRules.j2
   repeat' with_reducible first|apply ih0|apply ih1|apply ih2|apply ih3|apply spec_l2Positive.mono|apply spec_l2Scope.mono|apply spec_l2Shape.mono|apply LeO.refl|apply LeO.none|refine LeO.ite ?_ ?_|refine LeO.bind ?_ (fun _=>?_)
  ·intro y0 y1 y2 y3 y4 y5 y6 y7 y8 y9 y10 y11 y12 y13;unfold spec_CheckRules.l2
   repeat' with_reducible first|apply ih0|apply ih1|apply ih2|apply ih3|apply spec_l2Positive.mono|apply spec_l2Scope.mono|apply spec_l2Shape.mono|apply LeO.refl|apply LeO.none|refine LeO.ite ?_ ?_|refine LeO.bind ?_ (fun _=>?_)
theorem spec_CheckRules.mono:∀a0 k,LeO (spec_CheckRules.f k a0) (spec_CheckRules.f (k+1) a0):=by
 intro a0 k;obtain ⟨ih0,ih1,ih2,ih3⟩:=spec_CheckRules.mono_l k;unfold spec_CheckRules.f
 repeat' with_reducible first|apply ih0|apply ih1|apply ih2|apply ih3|apply spec_l2Positive.mono|apply spec_l2Scope.mono|apply spec_l2Shape.mono|apply LeO.refl|apply LeO.none|refine LeO.ite ?_ ?_|refine LeO.bind ?_ (fun _=>?_)
theorem uebb_1 {p:Prop} (h:p:=by
 have H':=a_ H;clear H;have p208:0≤(x65_4:Int):=md_
 have q208:x65_4<(((rd_T58 l0 x17_1).f4).length:Int):=md_
 obtain ⟨ad208,A208_3,c208_3,e208,hx208_0,hx208_1,hx208_2,hx208_3,hl208_3,hi208_3⟩:=at_T108 HR197_4.out x65_4 p208 q208;cases e208;replace hx208_0:=mx_ HB hx208_0;replace hx208_1:=mx_ HB hx208_1;replace hx208_2:=mx_ HB hx208_2;replace hx208_3:=mx_ HB hx208_3;have HR208_3:=a_ hi208_3;have HC208_3:=a_ hl208_3;clear hi208_3 hl208_3;replace p208:=eq_true p208;replace q208:=eq_true q208;go_wp2_with (first|((with_reducible refine gate_dst (N:=10) rfl ?_);refine bh_ 10 #[.int .i64 0,.int .i64 0,.string (⟨#[]⟩:ByteArray),.slice none 0 0] 108 HB ?_;intro gb209 hg wx BK209 GE209 hb;obtain ⟨NB196_209,NB209_196⟩:=mn_ BK196 hg;obtain ⟨NB198_209,NB209_198⟩:=mn_ BK198 hg;replace BK196:=mk_ BK196 hb;replace BK198:=mk_ BK198 hb;replace HB:=ms_ HB hb;clear hb hg;have nNB209_196:=NB209_196.out;have nNB196_209:=NB196_209.out;have nNB209_198:=NB209_198.out;have nNB198_209:=NB198_209.out;replace hz209:=cz4 BK209));go_roundg k4
 case measure=>
  have:=HK1.out
  have:=HK2.out
  have:=HJ40.out
  have:=HK4.out
  omega
 case rel=>exact ⟨(wrap64 (x65_4+1)),(x197000_4),(x197001_4),(x197002_4),mq_,H',⟨by have:=HK1.out;have:=HK2.out;have:=HJ40.out;have:=HK4.out;omega⟩,⟨mc_ BK196⟩,⟨mc_ BK198⟩,⟨mb_ HB⟩⟩):p:=h
theorem uebb_0 {p:Prop} (h:p:=by
 simp only [Option.some.injEq,Prod.mk.injEq] at H;obtain ⟨rfl,rfl,rfl⟩:=H;have p208:0≤(x65_4:Int):=md_
 have q208:x65_4<(((rd_T58 l0 x17_1).f4).length:Int):=md_
 obtain ⟨ad208,A208_3,c208_3,e208,hx208_0,hx208_1,hx208_2,hx208_3,hl208_3,hi208_3⟩:=at_T108 HR197_4.out x65_4 p208 q208;cases e208;replace hx208_0:=mx_ HB hx208_0;replace hx208_1:=mx_ HB hx208_1;replace hx208_2:=mx_ HB hx208_2;replace hx208_3:=mx_ HB hx208_3;have HR208_3:=a_ hi208_3;have HC208_3:=a_ hl208_3;clear hi208_3 hl208_3;replace p208:=eq_true p208;replace q208:=eq_true q208;go_wp2_with (first|((with_reducible refine gate_dst (N:=10) rfl ?_);refine bh_ 10 #[.int .i64 0,.int .i64 0,.string (⟨#[]⟩:ByteArray),.slice none 0 0] 108 HB ?_;intro gb209 hg wx BK209 GE209 hb;obtain ⟨NB196_209,NB209_196⟩:=mn_ BK196 hg;obtain ⟨NB198_209,NB209_198⟩:=mn_ BK198 hg;replace BK196:=mk_ BK196 hb;replace BK198:=mk_ BK198 hb;replace HB:=ms_ HB hb;clear hb hg;have nNB209_196:=NB209_196.out;have nNB196_209:=NB196_209.out;have nNB209_198:=NB209_198.out;have nNB198_209:=NB198_209.out;replace hz209:=cz4 BK209;have nNB198_196:=NB198_196.out;have nNB196_198:=NB196_198.out;replace hz198:=cz5 BK198;replace hz196:=cz3 BK196));refine bodyPost_ret (results_cell_row rfl _ _ gb196 80 #[.int .i64 5,.int .i64 x17_1,.int .i64 (wrap64 ((wrap64 ((((rd_T58 l0 x17_1).f2).length:Int)+x65_4))+1))] (0,0) _ rfl (mp_ BK196) Tryz.underlying80 rfl (by kernel_rfl)) rfl ?_;exact ⟨me_,mb_ HB⟩):p:=h
set_option maxHeartbeats 8000000 in
set_option maxRecDepth 100000 in
theorem spec_CheckRules.calls (k:Nat) (A0:Option Addr) (c0:Nat) (l0:List (S58)) (r1:Int) (r2:Int) (r3:Int) (w:World) (hr0:Kd.C k58 w A0 l0.length l0) (hc0:l0.length≤c0) (h:spec_CheckRules.f k l0=some (r1,r2,r3)):
  Calls Tryz.prog 49 #[.slice A0 l0.length c0] w fun e w'=>e=.returned (.agg #[.int .i64 r1,.int .i64 r2,.int .i64 r3])∧Below w.heap.size w w':=by
 have hu80:=Tryz.underlying80;have hu58:=Tryz.underlying58;have hu108:=Tryz.underlying108;have HR0:=a_ hr0;have HC0:=a_ hc0;clear hr0 hc0;have HB:=a_ (Below.refl w.heap.size w);have H:=h;unfold spec_CheckRules.f at H
 clear h;by_cases c2:(l0.length:Int)>16
 ·rw [if_pos c2] at H;have c2b0:=ct_ c2;have c2b1:decide (16<l0.length)=true:=decide_eq_true (by omega)
  clear c2;simp only [Option.some.injEq,Prod.mk.injEq] at H;obtain ⟨rfl,rfl,rfl⟩:=H;go_enter Tryz.func49,Tryz.ntmps49;go_wp2_with (first|((with_reducible refine gate_dst (N:=2) rfl ?_);refine bh_ 2 #[.int .i64 0,.int .i64 0,.int .i64 0] 80 HB ?_;intro gb196 hg wx BK196 GE196 hb;replace HB:=ms_ HB hb;clear hb hg;replace hz196:=cz3 BK196));refine bodyPost_ret (results_cell_row rfl _ _ gb196 80 #[.int .i64 1,.int .i64 0,.int .i64 0] (0,0) _ rfl (mp_ BK196) Tryz.underlying80 rfl (by kernel_rfl)) rfl ?_;exact ⟨me_,mb_ HB⟩
 ·rw [if_neg c2] at H;have c2b0:=cf_ c2;have c2b1:decide (16<l0.length)=false:=decide_eq_false (by omega)
  clear c2;have H':=a_ H;clear H;go_enter Tryz.func49,Tryz.ntmps49;go_wp2_with (first|((with_reducible refine gate_dst (N:=2) rfl ?_);refine bh_ 2 #[.int .i64 0,.int .i64 0,.int .i64 0] 80 HB ?_;intro gb196 hg wx BK196 GE196 hb;replace HB:=ms_ HB hb;clear hb hg));go_loopg [17] k (fun kq v17 w'=>∃(x17_1:Int) (x197000_1:Int) (x197001_1:Int) (x197002_1:Int),v17=.int .i64 x17_1∧Aside0 (spec_CheckRules.l0 kq l0 l0 (l0.length:Int) x17_1=some (r1,r2,r3))∧Aside0 (kq≤k)∧Aside0 (w'.heap[gb196]?=some (.cells #[.int .i64 x197000_1,.int .i64 x197001_1,.int .i64 x197002_1] 80 (0,0)))∧Aside0 (Below w.heap.size w w'))
  case atStart=>exact ⟨(0),(0),(0),(0),mq_,H',⟨Nat.le_refl _⟩,⟨mc_ BK196⟩,⟨mb_ HB⟩⟩
  clear H';(try clear c2b0);(try clear c2b1);obtain ⟨x17_1,x197000_1,x197001_1,x197002_1,rfl,HA,HK1,BK196,HB⟩:=hrel;obtain _|k1:=gk
  ·exact absurd HA.out (by simp [spec_CheckRules.l0])
  have H:=HA.out;clear HA;simp only [spec_CheckRules.l0] at H;by_cases c6:x17_1<(l0.length:Int)
  ·rw [if_pos c6] at H;have c6b0:=ct_ c6;clear c6;by_cases c7:0≤x17_1
   case neg=>
    rw [if_neg c7] at H;cases H
   rw [if_pos c7] at H;have c7b0:=ct_ c7;clear c7;by_cases c8:x17_1<(l0.length:Int)
   case neg=>
    rw [if_neg c8] at H;cases H
   rw [if_pos c8] at H;have c8b0:=ct_ c8;clear c8;obtain ⟨t199,A9,H⟩:=ob_ H;by_cases c10:t199≥0
   ·rw [if_pos c10] at H;have c10b0:=ct_ c10;clear c10;simp only [Option.some.injEq,Prod.mk.injEq] at H;obtain ⟨rfl,rfl,rfl⟩:=H;have p197:0≤(x17_1:Int):=md_
    have q197:x17_1<(l0.length:Int):=md_
    obtain ⟨ad197,A197_2,c197_2,A197_3,c197_3,A197_4,c197_4,e197,hx197_0,hx197_1,hx197_2,hx197_3,hx197_4,hl197_2,hi197_2,hl197_3,hi197_3,hl197_4,hi197_4⟩:=at_T58 HR0.out x17_1 p197 q197;cases e197;replace hx197_0:=mx_ HB hx197_0;replace hx197_1:=mx_ HB hx197_1;replace hx197_2:=mx_ HB hx197_2;replace hx197_3:=mx_ HB hx197_3;replace hx197_4:=mx_ HB hx197_4;have HR197_2:=a_ hi197_2;have HC197_2:=a_ hl197_2;clear hi197_2 hl197_2;have HR197_3:=a_ hi197_3;have HC197_3:=a_ hl197_3;clear hi197_3 hl197_3;have HR197_4:=a_ hi197_4;have HC197_4:=a_ hl197_4;clear hi197_4 hl197_4;replace p197:=eq_true p197;replace q197:=eq_true q197;go_wp2_with (first|((with_reducible refine gate_dst (N:=4) rfl ?_);refine bh_ 4 #[.string (⟨#[]⟩:ByteArray),.int .i64 0,.slice none 0 0,.slice none 0 0,.slice none 0 0] 58 HB ?_;intro gb198 hg wx BK198 GE198 hb;obtain ⟨NB196_198,NB198_196⟩:=mn_ BK196 hg;replace BK196:=mk_ BK196 hb;replace HB:=ms_ HB hb;clear hb hg;have nNB198_196:=NB198_196.out;have nNB196_198:=NB196_198.out;replace hz198:=cz5 BK198)|((with_reducible refine gate_callee (f:=69) rfl ?_);refine goesL_ (some 23) rfl rfl Tryz.func69 (by kernel_rfl) rfl #[.agg #[.string ((rd_T58 l0 x17_1).f0),.int .i64 ((rd_T58 l0 x17_1).f1),.slice A197_2 ((rd_T58 l0 x17_1).f2).length c197_2,.slice A197_3 ((rd_T58 l0 x17_1).f3).length c197_3,.slice A197_4 ((rd_T58 l0 x17_1).f4).length c197_4]] rfl mw_ ?_;(with_reducible refine (spec_l2Shape.calls k1 ((rd_T58 l0 x17_1).f0) ((rd_T58 l0 x17_1).f1) _ _ ((rd_T58 l0 x17_1).f2) _ _ ((rd_T58 l0 x17_1).f3) _ _ ((rd_T58 l0 x17_1).f4) t199 _ ?side1 HC197_2.out ?side3 HC197_3.out ?side5 HC197_4.out A9.out).mono ?_);(case side1=>exact Kd.C_below HR197_2.out (mb_ HB));(case side3=>exact Kd.C_below HR197_3.out (mb_ HB));(case side5=>exact Kd.C_below HR197_4.out (mb_ HB));rintro e wx ⟨rfl,hb⟩;refine ⟨_,rfl,?_⟩;replace BK196:=mk_ BK196 hb;replace BK198:=a_ (blk_below (g:=gb198) (o:=.cells #[.string ((rd_T58 l0 x17_1).f0),.int .i64 ((rd_T58 l0 x17_1).f1),.slice A197_2 ((rd_T58 l0 x17_1).f2).length c197_2,.slice A197_3 ((rd_T58 l0 x17_1).f3).length c197_3,.slice A197_4 ((rd_T58 l0 x17_1).f4).length c197_4] 58 (0,0)) (mp_ BK198) hb);replace HB:=ms_ HB hb;(try clear hb);replace hz196:=cz3 BK196));refine bodyPost_ret (results_cell_row rfl _ _ gb196 80 #[.int .i64 1,.int .i64 x17_1,.int .i64 t199] (0,0) _ rfl (mp_ BK196) Tryz.underlying80 rfl (by kernel_rfl)) rfl ?_;exact ⟨me_,mb_ HB⟩
   ·rw [if_neg c10] at H;have c10b0:=cf_ c10;clear c10;have c16b0:=eq_true (md_:0≤x17_1);by_cases c17:x17_1≤(l0.length:Int)
    case neg=>
     rw [if_neg c17] at H;cases H
    rw [if_pos c17] at H;have c17b0:=eq_true c17;have c17b1:=ct_ c17;clear c17;obtain ⟨y200,hy200⟩:∃y_:List (S58),y_=(l0.take (x17_1:Int).toNat):=⟨_,rfl⟩;rw [←hy200] at H;(try rw [Option.bind_some] at H);have Ny200:=a_ hy200;clear hy200;have H':=a_ H;clear H;have p197:0≤(x17_1:Int):=md_
    have q197:x17_1<(l0.length:Int):=md_
    obtain ⟨ad197,A197_2,c197_2,A197_3,c197_3,A197_4,c197_4,e197,hx197_0,hx197_1,hx197_2,hx197_3,hx197_4,hl197_2,hi197_2,hl197_3,hi197_3,hl197_4,hi197_4⟩:=at_T58 HR0.out x17_1 p197 q197;cases e197;replace hx197_0:=mx_ HB hx197_0;replace hx197_1:=mx_ HB hx197_1;replace hx197_2:=mx_ HB hx197_2;replace hx197_3:=mx_ HB hx197_3;replace hx197_4:=mx_ HB hx197_4;have HR197_2:=a_ hi197_2;have HC197_2:=a_ hl197_2;clear hi197_2 hl197_2;have HR197_3:=a_ hi197_3;have HC197_3:=a_ hl197_3;clear hi197_3 hl197_3;have HR197_4:=a_ hi197_4;have HC197_4:=a_ hl197_4;clear hi197_4 hl197_4;replace p197:=eq_true p197;replace q197:=eq_true q197;go_wp2_with (first|((with_reducible refine gate_dst (N:=4) rfl ?_);refine bh_ 4 #[.string (⟨#[]⟩:ByteArray),.int .i64 0,.slice none 0 0,.slice none 0 0,.slice none 0 0] 58 HB ?_;intro gb198 hg wx BK198 GE198 hb;obtain ⟨NB196_198,NB198_196⟩:=mn_ BK196 hg;replace BK196:=mk_ BK196 hb;replace HB:=ms_ HB hb;clear hb hg;have nNB198_196:=NB198_196.out;have nNB196_198:=NB196_198.out;replace hz198:=cz5 BK198)|((with_reducible refine gate_callee (f:=69) rfl ?_);refine goesL_ (some 23) rfl rfl Tryz.func69 (by kernel_rfl) rfl #[.agg #[.string ((rd_T58 l0 x17_1).f0),.int .i64 ((rd_T58 l0 x17_1).f1),.slice A197_2 ((rd_T58 l0 x17_1).f2).length c197_2,.slice A197_3 ((rd_T58 l0 x17_1).f3).length c197_3,.slice A197_4 ((rd_T58 l0 x17_1).f4).length c197_4]] rfl mw_ ?_;(with_reducible refine (spec_l2Shape.calls k1 ((rd_T58 l0 x17_1).f0) ((rd_T58 l0 x17_1).f1) _ _ ((rd_T58 l0 x17_1).f2) _ _ ((rd_T58 l0 x17_1).f3) _ _ ((rd_T58 l0 x17_1).f4) t199 _ ?side1 HC197_2.out ?side3 HC197_3.out ?side5 HC197_4.out A9.out).mono ?_);(case side1=>exact Kd.C_below HR197_2.out (mb_ HB));(case side3=>exact Kd.C_below HR197_3.out (mb_ HB));(case side5=>exact Kd.C_below HR197_4.out (mb_ HB));rintro e wx ⟨rfl,hb⟩;refine ⟨_,rfl,?_⟩;replace BK196:=mk_ BK196 hb;replace BK198:=a_ (blk_below (g:=gb198) (o:=.cells #[.string ((rd_T58 l0 x17_1).f0),.int .i64 ((rd_T58 l0 x17_1).f1),.slice A197_2 ((rd_T58 l0 x17_1).f2).length c197_2,.slice A197_3 ((rd_T58 l0 x17_1).f3).length c197_3,.slice A197_4 ((rd_T58 l0 x17_1).f4).length c197_4] 58 (0,0)) (mp_ BK198) hb);replace HB:=ms_ HB hb;(try clear hb);have q22:(x17_1:Int)≤((l0.length:Int):Int):=md_;obtain ⟨i022,hi022,_,hsz22,_⟩:=info_parts info58;have hroom22:l0.length≤c0:=HC0.out;have hC22:Kd.C k58 _ (some ad197) l0.length l0:=HR0.out;have hcut22:=cut_to (P:=Tryz.prog) 29 58 .i64 Tryz.underlying29 hi022 (some ad197) l0.length c0 x17_1 (md_) q22 hroom22;have hr22:=Kd.C_take (m:=(x17_1:Int).toNat) hC22 (by omega);have hy22:y200.length=(x17_1:Int).toNat:=(by rw [Ny200.out,List.length_take];omega);rw [←Ny200.out] at hr22;rw [←hy22] at hcut22;have HR203:=a_ hr22;have HC203:=a_ (show y200.length≤c0 from by omega);clear hr22 hC22 hroom22 hi022 hsz22;have KY22:=a_ hy22;clear hy22;replace q22:=eq_true q22))
    go_loopg [33] k1 (fun kq v33 w'=>∃(x33_2:Int) (x197000_2:Int) (x197001_2:Int) (x197002_2:Int),v33=.int .i64 x33_2∧Aside0 (spec_CheckRules.l1 kq l0 x17_1 l0 (l0.length:Int) x17_1 y200 (y200.length:Int) x33_2 ((rd_T58 l0 x17_1).f0) ((rd_T58 l0 x17_1).f1) ((rd_T58 l0 x17_1).f2) ((rd_T58 l0 x17_1).f3) ((rd_T58 l0 x17_1).f4)=some (r1,r2,r3))∧Aside0 (kq≤k1)∧Aside0 (w'.heap[gb196]?=some (.cells #[.int .i64 x197000_2,.int .i64 x197001_2,.int .i64 x197002_2] 80 (0,0)))∧Aside0 (w'.heap[gb198]?=some (.cells #[.string ((rd_T58 l0 x17_1).f0),.int .i64 ((rd_T58 l0 x17_1).f1),(.slice A197_2 ((rd_T58 l0 x17_1).f2).length c197_2),(.slice A197_3 ((rd_T58 l0 x17_1).f3).length c197_3),(.slice A197_4 ((rd_T58 l0 x17_1).f4).length c197_4)] 58 (0,0)))∧Aside0 (Below w.heap.size w w'))
    case atStart=>exact ⟨(0),(x197000_1),(x197001_1),(x197002_1),mq_,H',⟨Nat.le_refl _⟩,⟨mc_ BK196⟩,⟨mc_ BK198⟩,⟨mb_ HB⟩⟩
    clear H';(try clear c6b0);(try clear c7b0);(try clear c8b0);(try clear c10b0);(try clear c16b0);(try clear c17b0);(try clear c17b1);(try clear q22);(try clear hx197_0);(try clear hx197_1);(try clear hx197_2);(try clear hx197_3);(try clear hx197_4);(try clear p197);(try clear q197);obtain ⟨x33_2,x197000_2,x197001_2,x197002_2,rfl,HA,HK2,BK196,BK198,HB⟩:=hrel;obtain _|k2:=gk
    ·exact absurd HA.out (by simp [spec_CheckRules.l1])
    have H:=HA.out;clear HA;simp only [spec_CheckRules.l1] at H;by_cases c23:x33_2<(y200.length:Int)
    ·rw [if_pos c23] at H;have c23b0:=ct_ c23;clear c23;by_cases c24:0≤x33_2
     case neg=>
      rw [if_neg c24] at H;cases H
     rw [if_pos c24] at H;have c24b0:=ct_ c24;clear c24;by_cases c25:x33_2<(y200.length:Int)
     case neg=>
      rw [if_neg c25] at H;cases H
     rw [if_pos c25] at H;have c25b0:=ct_ c25;clear c25;by_cases c26:((rd_T58 y200 x33_2).f0).toList=((rd_T58 l0 x17_1).f0).toList
     ·rw [if_pos c26] at H;obtain ⟨c26b0,c26b1⟩:=bq_ c26;clear c26;simp only [Option.some.injEq,Prod.mk.injEq] at H;obtain ⟨rfl,rfl,rfl⟩:=H;have p204:0≤(x33_2:Int):=md_
      have q204:x33_2<(y200.length:Int):=md_
      obtain ⟨ad204,A204_2,c204_2,A204_3,c204_3,A204_4,c204_4,e204,hx204_0,hx204_1,hx204_2,hx204_3,hx204_4,hl204_2,hi204_2,hl204_3,hi204_3,hl204_4,hi204_4⟩:=at_T58 HR203.out x33_2 p204 q204;obtain rfl:ad197=ad204:=(by injection e204);replace hx204_0:=mx_ HB hx204_0;replace hx204_1:=mx_ HB hx204_1;replace hx204_2:=mx_ HB hx204_2;replace hx204_3:=mx_ HB hx204_3;replace hx204_4:=mx_ HB hx204_4;have HR204_2:=a_ hi204_2;have HC204_2:=a_ hl204_2;clear hi204_2 hl204_2;have HR204_3:=a_ hi204_3;have HC204_3:=a_ hl204_3;clear hi204_3 hl204_3;have HR204_4:=a_ hi204_4;have HC204_4:=a_ hl204_4;clear hi204_4 hl204_4;replace p204:=eq_true p204;replace q204:=eq_true q204;go_wp2_with (first|((with_reducible refine gate_dst (N:=7) rfl ?_);refine bh_ 7 #[.string (⟨#[]⟩:ByteArray),.int .i64 0,.slice none 0 0,.slice none 0 0,.slice none 0 0] 58 HB ?_;intro gb205 hg wx BK205 GE205 hb;obtain ⟨NB196_205,NB205_196⟩:=mn_ BK196 hg;obtain ⟨NB198_205,NB205_198⟩:=mn_ BK198 hg;replace BK196:=mk_ BK196 hb;replace BK198:=mk_ BK198 hb;replace HB:=ms_ HB hb;clear hb hg;have nNB205_196:=NB205_196.out;have nNB196_205:=NB196_205.out;have nNB205_198:=NB205_198.out;have nNB198_205:=NB198_205.out;replace hz205:=cz5 BK205;have nNB198_196:=NB198_196.out;have nNB196_198:=NB196_198.out;replace hz198:=cz5 BK198;replace hz196:=cz3 BK196));refine bodyPost_ret (results_cell_row rfl _ _ gb196 80 #[.int .i64 2,.int .i64 x17_1,.int .i64 0] (0,0) _ rfl (mp_ BK196) Tryz.underlying80 rfl (by kernel_rfl)) rfl ?_;exact ⟨me_,mb_ HB⟩
     ·rw [if_neg c26] at H;obtain ⟨c26b0,c26b1⟩:=bn_ c26;have H':=a_ H;clear H;have p204:0≤(x33_2:Int):=md_
      have q204:x33_2<(y200.length:Int):=md_
      obtain ⟨ad204,A204_2,c204_2,A204_3,c204_3,A204_4,c204_4,e204,hx204_0,hx204_1,hx204_2,hx204_3,hx204_4,hl204_2,hi204_2,hl204_3,hi204_3,hl204_4,hi204_4⟩:=at_T58 HR203.out x33_2 p204 q204;obtain rfl:ad197=ad204:=(by injection e204);replace hx204_0:=mx_ HB hx204_0;replace hx204_1:=mx_ HB hx204_1;replace hx204_2:=mx_ HB hx204_2;replace hx204_3:=mx_ HB hx204_3;replace hx204_4:=mx_ HB hx204_4;have HR204_2:=a_ hi204_2;have HC204_2:=a_ hl204_2;clear hi204_2 hl204_2;have HR204_3:=a_ hi204_3;have HC204_3:=a_ hl204_3;clear hi204_3 hl204_3;have HR204_4:=a_ hi204_4;have HC204_4:=a_ hl204_4;clear hi204_4 hl204_4;replace p204:=eq_true p204;replace q204:=eq_true q204;go_wp2_with (first|((with_reducible refine gate_dst (N:=7) rfl ?_);refine bh_ 7 #[.string (⟨#[]⟩:ByteArray),.int .i64 0,.slice none 0 0,.slice none 0 0,.slice none 0 0] 58 HB ?_;intro gb205 hg wx BK205 GE205 hb;obtain ⟨NB196_205,NB205_196⟩:=mn_ BK196 hg;obtain ⟨NB198_205,NB205_198⟩:=mn_ BK198 hg;replace BK196:=mk_ BK196 hb;replace BK198:=mk_ BK198 hb;replace HB:=ms_ HB hb;clear hb hg;have nNB205_196:=NB205_196.out;have nNB196_205:=NB196_205.out;have nNB205_198:=NB205_198.out;have nNB198_205:=NB198_205.out;replace hz205:=cz5 BK205;have nNB198_196:=NB198_196.out;have nNB196_198:=NB196_198.out;replace hz198:=cz5 BK198));go_roundg k2
      case measure=>
       have:=HK1.out
       have:=HK2.out
       omega
      case rel=>exact ⟨(wrap64 (x33_2+1)),(x197000_2),(x197001_2),(x197002_2),mq_,H',⟨by have:=HK1.out;have:=HK2.out;omega⟩,⟨mc_ BK196⟩,⟨mc_ BK198⟩,⟨mb_ HB⟩⟩
    ·rw [if_neg c23] at H;have c23b0:=cf_ c23;clear c23;obtain ⟨t206,A40,H⟩:=ob_ H;have HC41:=a_ H;clear H;have nNB198_196:=NB198_196.out;have nNB196_198:=NB196_198.out;replace hz198:=cz5 BK198;go_upto_region 16 with (first|((with_reducible refine gate_callee (f:=70) rfl ?_);refine goesL_ (some 46) rfl rfl Tryz.func70 (by kernel_rfl) rfl #[.agg #[.string ((rd_T58 l0 x17_1).f0),.int .i64 ((rd_T58 l0 x17_1).f1),.slice A197_2 ((rd_T58 l0 x17_1).f2).length c197_2,.slice A197_3 ((rd_T58 l0 x17_1).f3).length c197_3,.slice A197_4 ((rd_T58 l0 x17_1).f4).length c197_4]] rfl mw_ ?_;(with_reducible refine (spec_l2Positive.calls k2 ((rd_T58 l0 x17_1).f0) ((rd_T58 l0 x17_1).f1) _ _ ((rd_T58 l0 x17_1).f2) _ _ ((rd_T58 l0 x17_1).f3) _ _ ((rd_T58 l0 x17_1).f4) t206 _ ?side1 HC197_2.out ?side3 HC197_3.out ?side5 HC197_4.out A40.out).mono ?_);(case side1=>exact mt_ HR197_2 HB);(case side3=>exact mt_ HR197_3 HB);(case side5=>exact mt_ HR197_4 HB);rintro e w44 ⟨rfl,hb⟩;refine ⟨_,rfl,?_⟩;replace BK196:=mk_ BK196 hb;replace BK198:=mk_ BK198 hb;replace HB:=ms_ HB hb;(try clear hb)));(try simp only [Act.put,List.setIfInBounds_toArray,List.set_cons_zero,List.set_cons_succ]);go_cut [52] (fun v52 wc=>∃(kq:Nat) (x52_40:Bool),v52=.bool x52_40∧Aside0 (spec_CheckRules.j2 kq l0 x17_1 t206 l0 (l0.length:Int) x17_1 x52_40 ((rd_T58 l0 x17_1).f0) ((rd_T58 l0 x17_1).f1) ((rd_T58 l0 x17_1).f2) ((rd_T58 l0 x17_1).f3) ((rd_T58 l0 x17_1).f4)=some (r1,r2,r3))∧Aside0 (kq≤k2)∧Aside0 (wc.heap[gb196]?=some (.cells #[.int .i64 x197000_2,.int .i64 x197001_2,.int .i64 x197002_2] 80 (0,0)))∧Aside0 (wc.heap[gb198]?=some (.cells #[.string ((rd_T58 l0 x17_1).f0),.int .i64 ((rd_T58 l0 x17_1).f1),(.slice A197_2 ((rd_T58 l0 x17_1).f2).length c197_2),(.slice A197_3 ((rd_T58 l0 x17_1).f3).length c197_3),(.slice A197_4 ((rd_T58 l0 x17_1).f4).length c197_4)] 58 (0,0)))∧Aside0 (Below w.heap.size w wc))
     case first=>
      have H:=HC41.out;clear HC41;by_cases c45:t206<1
      ·rw [if_pos c45] at H;have c45b0:=ct_ c45;clear c45;(first|rw [c45b0]|(simp only [i64_w,i32_w];rw [c45b0])|skip);have H':=a_ H;clear H;go_wp2;go_meet
       case rel=>exact ⟨_,(true),mq_,H',⟨by have:=HK1.out;have:=HK2.out;first|omega|exact Nat.le_refl _⟩,⟨mc_ BK196⟩,⟨mc_ BK198⟩,⟨mb_ HB⟩⟩
      ·rw [if_neg c45] at H;have c45b0:=cf_ c45;clear c45;(first|rw [c45b0]|(simp only [i64_w,i32_w];rw [c45b0])|skip);have H':=a_ H;clear H;go_wp2;go_meet
       case rel=>exact ⟨_,(decide (t206>3)),mq_,H',⟨by have:=HK1.out;have:=HK2.out;first|omega|exact Nat.le_refl _⟩,⟨mc_ BK196⟩,⟨mc_ BK198⟩,⟨mb_ HB⟩⟩
     clear HC41;(try clear c23b0);obtain ⟨kq,x52_40,rfl,HA,HJ40,BK196,BK198,HB⟩:=hcut;obtain _|kj40:=kq
     ·exact absurd HA.out (by simp [spec_CheckRules.j2])
     have H:=HA.out;clear HA;simp only [spec_CheckRules.j2] at H;by_cases c46:x52_40=true
     ·subst c46;rw [if_pos rfl] at H;simp only [Option.some.injEq,Prod.mk.injEq] at H;obtain ⟨rfl,rfl,rfl⟩:=H;have nNB196_198:=NB196_198.out;have nNB198_196:=NB198_196.out;replace hz196:=cz3 BK196;go_wp2;refine bodyPost_ret (results_cell_row rfl _ _ gb196 80 #[.int .i64 3,.int .i64 x17_1,.int .i64 0] (0,0) _ rfl (mp_ BK196) Tryz.underlying80 rfl (by kernel_rfl)) rfl ?_;exact ⟨me_,mb_ HB⟩
     ·replace c46:=Bool.eq_false_iff.mpr c46;subst c46;rw [if_neg (show ¬(false=true) by decide)] at H;obtain ⟨t207,A49,H⟩:=ob_ H;by_cases c50:t207≥0
      ·rw [if_pos c50] at H;have c50b0:=ct_ c50;clear c50;simp only [Option.some.injEq,Prod.mk.injEq] at H;obtain ⟨rfl,rfl,rfl⟩:=H;have nNB198_196:=NB198_196.out;have nNB196_198:=NB196_198.out;replace hz198:=cz5 BK198;go_wp2_with (first|((with_reducible refine gate_callee (f:=71) rfl ?_);refine goesL_ (some 56) rfl rfl Tryz.func71 (by kernel_rfl) rfl #[.agg #[.string ((rd_T58 l0 x17_1).f0),.int .i64 ((rd_T58 l0 x17_1).f1),.slice A197_2 ((rd_T58 l0 x17_1).f2).length c197_2,.slice A197_3 ((rd_T58 l0 x17_1).f3).length c197_3,.slice A197_4 ((rd_T58 l0 x17_1).f4).length c197_4]] rfl mw_ ?_;(with_reducible refine (spec_l2Scope.calls kj40 ((rd_T58 l0 x17_1).f0) ((rd_T58 l0 x17_1).f1) _ _ ((rd_T58 l0 x17_1).f2) _ _ ((rd_T58 l0 x17_1).f3) _ _ ((rd_T58 l0 x17_1).f4) t207 _ ?side1 HC197_2.out ?side3 HC197_3.out ?side5 HC197_4.out A49.out).mono ?_);(case side1=>exact mt_ HR197_2 HB);(case side3=>exact mt_ HR197_3 HB);(case side5=>exact mt_ HR197_4 HB);rintro e wx ⟨rfl,hb⟩;refine ⟨_,rfl,?_⟩;replace BK196:=mk_ BK196 hb;replace BK198:=mk_ BK198 hb;replace HB:=ms_ HB hb;(try clear hb);replace hz196:=cz3 BK196));refine bodyPost_ret (results_cell_row rfl _ _ gb196 80 #[.int .i64 4,.int .i64 x17_1,.int .i64 t207] (0,0) _ rfl (mp_ BK196) Tryz.underlying80 rfl (by kernel_rfl)) rfl ?_;exact ⟨me_,mb_ HB⟩
      ·rw [if_neg c50] at H;have c50b0:=cf_ c50;clear c50;have H':=a_ H;clear H;have nNB198_196:=NB198_196.out;have nNB196_198:=NB196_198.out;replace hz198:=cz5 BK198;go_wp2_with (first|((with_reducible refine gate_callee (f:=71) rfl ?_);refine goesL_ (some 56) rfl rfl Tryz.func71 (by kernel_rfl) rfl #[.agg #[.string ((rd_T58 l0 x17_1).f0),.int .i64 ((rd_T58 l0 x17_1).f1),.slice A197_2 ((rd_T58 l0 x17_1).f2).length c197_2,.slice A197_3 ((rd_T58 l0 x17_1).f3).length c197_3,.slice A197_4 ((rd_T58 l0 x17_1).f4).length c197_4]] rfl mw_ ?_;(with_reducible refine (spec_l2Scope.calls kj40 ((rd_T58 l0 x17_1).f0) ((rd_T58 l0 x17_1).f1) _ _ ((rd_T58 l0 x17_1).f2) _ _ ((rd_T58 l0 x17_1).f3) _ _ ((rd_T58 l0 x17_1).f4) t207 _ ?side1 HC197_2.out ?side3 HC197_3.out ?side5 HC197_4.out A49.out).mono ?_);(case side1=>exact mt_ HR197_2 HB);(case side3=>exact mt_ HR197_3 HB);(case side5=>exact mt_ HR197_4 HB);rintro e wx ⟨rfl,hb⟩;refine ⟨_,rfl,?_⟩;replace BK196:=mk_ BK196 hb;replace BK198:=mk_ BK198 hb;replace HB:=ms_ HB hb;(try clear hb);replace hz198:=cz5 BK198));go_loopg [65] kj40 (fun kq v65 w'=>∃(x65_4:Int) (x197000_4:Int) (x197001_4:Int) (x197002_4:Int),v65=.int .i64 x65_4∧Aside0 (spec_CheckRules.l2 kq l0 x17_1 t206 l0 (l0.length:Int) x17_1 ((rd_T58 l0 x17_1).f4) (((rd_T58 l0 x17_1).f4).length:Int) x65_4 ((rd_T58 l0 x17_1).f0) ((rd_T58 l0 x17_1).f1) ((rd_T58 l0 x17_1).f2) ((rd_T58 l0 x17_1).f3) ((rd_T58 l0 x17_1).f4)=some (r1,r2,r3))∧Aside0 (kq≤kj40)∧Aside0 (w'.heap[gb196]?=some (.cells #[.int .i64 x197000_4,.int .i64 x197001_4,.int .i64 x197002_4] 80 (0,0)))∧Aside0 (w'.heap[gb198]?=some (.cells #[.string ((rd_T58 l0 x17_1).f0),.int .i64 ((rd_T58 l0 x17_1).f1),(.slice A197_2 ((rd_T58 l0 x17_1).f2).length c197_2),(.slice A197_3 ((rd_T58 l0 x17_1).f3).length c197_3),(.slice A197_4 ((rd_T58 l0 x17_1).f4).length c197_4)] 58 (0,0)))∧Aside0 (Below w.heap.size w w'))
       case atStart=>exact ⟨(0),(x197000_2),(x197001_2),(x197002_2),mq_,H',⟨Nat.le_refl _⟩,⟨mc_ BK196⟩,⟨mc_ BK198⟩,⟨mb_ HB⟩⟩
       clear H';(try clear c46);(try clear c50b0);obtain ⟨x65_4,x197000_4,x197001_4,x197002_4,rfl,HA,HK4,BK196,BK198,HB⟩:=hrel;obtain _|k4:=gk
       ·exact absurd HA.out (by simp [spec_CheckRules.l2])
       have H:=HA.out;clear HA;simp only [spec_CheckRules.l2] at H;by_cases c59:x65_4<(((rd_T58 l0 x17_1).f4).length:Int)
       ·rw [if_pos c59] at H;have c59b0:=ct_ c59;clear c59;by_cases c60:0≤x65_4
        case neg=>
         rw [if_neg c60] at H;cases H
        rw [if_pos c60] at H;have c60b0:=ct_ c60;clear c60;by_cases c61:x65_4<(((rd_T58 l0 x17_1).f4).length:Int)
        case neg=>
         rw [if_neg c61] at H;cases H
        rw [if_pos c61] at H;have c61b0:=ct_ c61;clear c61;by_cases c62:((rd_T108 ((rd_T58 l0 x17_1).f4) x65_4).f0)=2
        ·rw [if_pos c62] at H;obtain ⟨c62b0,c62b1⟩:=bq_ c62;clear c62;by_cases c63:((rd_T108 ((rd_T58 l0 x17_1).f4) x65_4).f1)<1
         ·rw [if_pos c63] at H;have c63b0:=ct_ c63;clear c63;exact uebb_0
         ·rw [if_neg c63] at H;have c63b0:=cf_ c63;clear c63;by_cases c71:((rd_T108 ((rd_T58 l0 x17_1).f4) x65_4).f1)>t206
          ·rw [if_pos c71] at H;have c71b0:=ct_ c71;clear c71;exact uebb_0
          ·rw [if_neg c71] at H;have c71b0:=cf_ c71;clear c71;exact uebb_1
        ·rw [if_neg c62] at H;obtain ⟨c62b0,c62b1⟩:=bn_ c62;by_cases c83:((rd_T108 ((rd_T58 l0 x17_1).f4) x65_4).f0)=3
         ·rw [if_pos c83] at H;obtain ⟨c83b0,c83b1⟩:=bq_ c83;clear c83;by_cases c84:((rd_T108 ((rd_T58 l0 x17_1).f4) x65_4).f1)<1
          ·rw [if_pos c84] at H;have c84b0:=ct_ c84;clear c84;exact uebb_0
          ·rw [if_neg c84] at H;have c84b0:=cf_ c84;clear c84;by_cases c92:((rd_T108 ((rd_T58 l0 x17_1).f4) x65_4).f1)>t206
           ·rw [if_pos c92] at H;have c92b0:=ct_ c92;clear c92;exact uebb_0
           ·rw [if_neg c92] at H;have c92b0:=cf_ c92;clear c92;exact uebb_1
         ·rw [if_neg c83] at H;obtain ⟨c83b0,c83b1⟩:=bn_ c83;exact uebb_1
       ·rw [if_neg c59] at H;have c59b0:=cf_ c59;clear c59;have H':=a_ H;clear H;go_wp2;go_roundg k4
        case measure=>
         have:=HK1.out
         have:=HK2.out
         have:=HJ40.out
         have:=HK4.out
         omega
        case rel=>exact ⟨(wrap64 (x17_1+1)),(x197000_4),(x197001_4),(x197002_4),mq_,H',⟨by have:=HK1.out;have:=HK2.out;have:=HJ40.out;have:=HK4.out;omega⟩,⟨mc_ BK196⟩,⟨mb_ HB⟩⟩
  ·rw [if_neg c6] at H;have c6b0:=cf_ c6;clear c6;simp only [Option.some.injEq,Prod.mk.injEq] at H;obtain ⟨rfl,rfl,rfl⟩:=H;replace hz196:=cz3 BK196;go_wp2;refine bodyPost_ret (results_cell_row rfl _ _ gb196 80 #[.int .i64 0,.int .i64 0,.int .i64 0] (0,0) _ rfl (mp_ BK196) Tryz.underlying80 rfl (by kernel_rfl)) rfl ?_;exact ⟨me_,mb_ HB⟩
end Go.Proofs.YtejjlkbbnhpbdaaGreat.P
namespace Go.Proofs.YtejjlkbbnhpbdaaGreat.P
open Go.Proofs.YtejjlkbbnhpbdaaGreatX
open Go.RowKit Go.Proofs.YtejjlkbbnhpbdaaGreatW.PrintWords Go.Proofs.YtejjlkbbnhpbdaaGreatW.PrintLast Go.Proofs.YtejjlkbbnhpbdaaGreatW.PrintMore
attribute [local go_sem] max2_int min2_int max_two min_two max_three min_three max_four min_four
set_option linter.unusedVariables false
set_option linter.unusedSimpArgs false
attribute [local go_sem high] eqA80
def spec_l2Checked.f (k:Nat) (l0:List (S58)):Option (Bool):=(spec_CheckRules.f k l0).bind fun bt210=>(some (bt210.1==0&&(bt210.2.1==0&&(bt210.2.2==0))))
theorem spec_l2Checked.mono:∀a0 k,LeO (spec_l2Checked.f k a0) (spec_l2Checked.f (k+1) a0):=by
 intro a0 k;unfold spec_l2Checked.f
 repeat' with_reducible first|apply spec_CheckRules.mono|apply LeO.refl|apply LeO.none|refine LeO.ite ?_ ?_|refine LeO.bind ?_ (fun _=>?_)
set_option maxHeartbeats 8000000 in
set_option maxRecDepth 100000 in
theorem spec_l2Checked.calls (k:Nat) (A0:Option Addr) (c0:Nat) (l0:List (S58)) (r:Bool) (w:World) (hr0:Kd.C k58 w A0 l0.length l0) (hc0:l0.length≤c0) (h:spec_l2Checked.f k l0=some r):
  Calls Tryz.prog 24 #[.slice A0 l0.length c0] w fun e w'=>e=.returned (.bool r)∧Below w.heap.size w w':=by
 have hu80:=Tryz.underlying80;have HR0:=a_ hr0;have HC0:=a_ hc0;clear hr0 hc0;have HB:=a_ (Below.refl w.heap.size w);have H:=h;unfold spec_l2Checked.f at H
 clear h;obtain ⟨⟨t210,t211,t212⟩,A2,H⟩:=ob_ H;obtain rfl:=oi_ H;go_enter Tryz.func24,Tryz.ntmps24;go_wp2_with (first|((with_reducible refine gate_callee (f:=49) rfl ?_);refine goesL_ (some 4) rfl rfl Tryz.func49 (by kernel_rfl) rfl #[.slice A0 l0.length c0] rfl mw_ ?_;(with_reducible refine (spec_CheckRules.calls k _ _ l0 t210 t211 t212 _ ?side1 HC0.out A2.out).mono ?_);(case side1=>repeat (first|exact HR0.out|(with_reducible refine Kd.C_alloc ?_ _)|(with_reducible refine Kd.C_drewN ?_ _)|(with_reducible refine Kd.C_drew ?_)));rintro e wx ⟨rfl,hb⟩;refine ⟨_,rfl,?_⟩;replace HB:=ms_ HB hb;(try clear hb)));go_ret;exact ⟨me_,mb_ HB⟩
mutual
def spec_l5Tags.l0:Nat→List Int→List Int→Int→Option (Int)
 | 0,_,_,_=>none
 | k+1,x0,x1,x5=>if x5<(x0.length:Int) then (spec_l5Tags.j1 k x0 x1 x5 (decide (x5<(x1.length:Int)))) else (spec_l5Tags.j1 k x0 x1 x5 false)
def spec_l5Tags.j1:Nat→List Int→List Int→Int→Bool→Option (Int)
 | 0,_,_,_,_=>none
 | k+1,x0,x1,x5,x15=>if x15=true then (if 0≤x5 then (if x5<(x0.length:Int) then (if x5<(x1.length:Int) then (if (rd x0 x5)<(rd x1 x5) then (some (-1)) else (if (rd x0 x5)>(rd x1 x5) then (some 1) else (spec_l5Tags.l0 k x0 x1 (wrap64 (x5+1))))) else (none)) else (none)) else (none)) else (some (wrap64 ((x0.length:Int)-(x1.length:Int))))
end
def spec_l5Tags.f (k:Nat) (l0:List Int) (l1:List Int):Option (Int):=spec_l5Tags.l0 k l0 l1 0
theorem spec_l5Tags.mono_l:∀k,(∀y0 y1 y2,LeO (spec_l5Tags.l0 k y0 y1 y2) (spec_l5Tags.l0 (k+1) y0 y1 y2))∧(∀y0 y1 y2 y3,LeO (spec_l5Tags.j1 k y0 y1 y2 y3) (spec_l5Tags.j1 (k+1) y0 y1 y2 y3))
 | 0=>⟨fun _ _ _ r h=>by simp [spec_l5Tags.l0] at h,fun _ _ _ _ r h=>by simp [spec_l5Tags.j1] at h⟩
 | k+1=>by
  obtain ⟨ih0,ih1⟩:=spec_l5Tags.mono_l k;refine ⟨?_,?_⟩
  ·intro y0 y1 y2;unfold spec_l5Tags.l0
   repeat' with_reducible first|apply ih0|apply ih1|apply LeO.refl|apply LeO.none|refine LeO.ite ?_ ?_|refine LeO.bind ?_ (fun _=>?_)
  ·intro y0 y1 y2 y3;unfold spec_l5Tags.j1
   repeat' with_reducible first|apply ih0|apply ih1|apply LeO.refl|apply LeO.none|refine LeO.ite ?_ ?_|refine LeO.bind ?_ (fun _=>?_)
theorem spec_l5Tags.mono:∀a0 a1 k,LeO (spec_l5Tags.f k a0 a1) (spec_l5Tags.f (k+1) a0 a1):=by
 intro a0 a1 k;obtain ⟨ih0,ih1⟩:=spec_l5Tags.mono_l k;unfold spec_l5Tags.f
 repeat' with_reducible first|apply ih0|apply ih1|apply LeO.refl|apply LeO.none|refine LeO.ite ?_ ?_|refine LeO.bind ?_ (fun _=>?_)
theorem ub24_0 {p:Prop} (h:p:=by
 go_wp2;repeat (go_quiet (fail);try go_wp2)
 go_ret;exact ⟨by first|rfl|(simp;done)|(simp [*];done),by repeat (first|exact Drawn0.refl _|apply Drawn0.step)⟩):p:=h
set_option maxHeartbeats 8000000 in
set_option maxRecDepth 100000 in
theorem spec_l5Tags.calls (k:Nat) (A0:Option Addr) (c0:Nat) (l0:List Int) (A1:Option Addr) (c1:Nat) (l1:List Int) (r:Int) (w:World) (hr0:Kd.C (Kd.int .i64) w A0 l0.length l0) (hc0:l0.length≤c0) (hr1:Kd.C (Kd.int .i64) w A1 l1.length l1) (hc1:l1.length≤c1) (h:spec_l5Tags.f k l0 l1=some r):
  Calls Tryz.prog 50 #[.slice A0 l0.length c0,.slice A1 l1.length c1] w fun e w'=>e=.returned (.int .i64 r)∧Drawn0 w w':=by
 have HR0:=a_ hr0;have HC0:=a_ hc0;clear hr0 hc0;have HR1:=a_ hr1;have HC1:=a_ hc1;clear hr1 hc1;have H:(spec_l5Tags.l0 k l0 l1 0)=some r:=h
 clear h;have H':=a_ H;clear H;go_enter Tryz.func50,Tryz.ntmps50;go_wp2;repeat (go_quiet (fail);try go_wp2)
 go_loopg [5] k (fun kq v5 w'=>∃(x5_1:Int),v5=.int .i64 x5_1∧Aside0 (spec_l5Tags.l0 kq l0 l1 x5_1=some r)∧Aside0 (kq≤k)∧Drawn0 w w')
 case atStart=>exact ⟨(0),mq_,H',⟨Nat.le_refl _⟩,by repeat (first|exact Drawn0.refl _|apply Drawn0.step)⟩
 clear H';obtain ⟨x5_1,rfl,HA,HK1,⟨m1,rfl⟩⟩:=hrel;obtain _|k1:=gk
 ·exact absurd HA.out (by simp [spec_l5Tags.l0])
 have H:=HA.out;clear HA;simp only [spec_l5Tags.l0] at H;have HC3:=a_ H;clear H;go_upto_region 2 with (fail);repeat (go_quiet (fail);go_upto_region 2 with (fail))
 go_cut [15] (fun v15 wc=>∃(kq:Nat) (x15_2:Bool),v15=.bool x15_2∧Aside0 (spec_l5Tags.j1 kq l0 l1 x5_1 x15_2=some r)∧Aside0 (kq≤k1)∧Drawn0 w wc)
 case first=>
  have H:=HC3.out;clear HC3;by_cases c4:x5_1<(l0.length:Int)
  ·rw [if_pos c4] at H;have c4b0:=ct_ c4;clear c4;(first|rw [c4b0]|(simp only [i64_w,i32_w];rw [c4b0])|skip);have H':=a_ H;clear H;go_wp2;repeat (go_quiet (fail);try go_wp2)
   go_meet
   case rel=>exact ⟨_,(decide (x5_1<(l1.length:Int))),mq_,H',⟨by have:=HK1.out;first|omega|exact Nat.le_refl _⟩,by repeat (first|exact Drawn0.refl _|apply Drawn0.step)⟩
  ·rw [if_neg c4] at H;have c4b0:=cf_ c4;clear c4;(first|rw [c4b0]|(simp only [i64_w,i32_w];rw [c4b0])|skip);have H':=a_ H;clear H;go_wp2;repeat (go_quiet (fail);try go_wp2)
   go_meet
   case rel=>exact ⟨_,(false),mq_,H',⟨by have:=HK1.out;first|omega|exact Nat.le_refl _⟩,by repeat (first|exact Drawn0.refl _|apply Drawn0.step)⟩
 clear HC3;obtain ⟨kq,x15_2,rfl,HA,HJ2,⟨mc2,rfl⟩⟩:=hcut;obtain _|kj2:=kq
 ·exact absurd HA.out (by simp [spec_l5Tags.j1])
 have H:=HA.out;clear HA;simp only [spec_l5Tags.j1] at H;by_cases c5:x15_2=true
 ·subst c5;rw [if_pos rfl] at H;by_cases c6:0≤x5_1
  case neg=>
   rw [if_neg c6] at H;cases H
  rw [if_pos c6] at H;have c6b0:=ct_ c6;clear c6;by_cases c7:x5_1<(l0.length:Int)
  case neg=>
   rw [if_neg c7] at H;cases H
  rw [if_pos c7] at H;have c7b0:=ct_ c7;clear c7;by_cases c8:x5_1<(l1.length:Int)
  case neg=>
   rw [if_neg c8] at H;cases H
  rw [if_pos c8] at H;have c8b0:=ct_ c8;clear c8;by_cases c9:(rd l0 x5_1)<(rd l1 x5_1)
  ·rw [if_pos c9] at H;have c9b0:=ct_ c9;clear c9;obtain rfl:=oi_ H;have p213:0≤(x5_1:Int):=md_
   have q213:x5_1<(l0.length:Int):=md_
   obtain ⟨ad213,e213,hx213_0⟩:=Kd.at_int HR0.out x5_1 p213 q213;cases e213;replace p213:=eq_true p213;replace q213:=eq_true q213;have p214:0≤(x5_1:Int):=md_
   have q214:x5_1<(l1.length:Int):=md_
   obtain ⟨ad214,e214,hx214_0⟩:=Kd.at_int HR1.out x5_1 p214 q214;cases e214;replace p214:=eq_true p214;replace q214:=eq_true q214;exact ub24_0
  ·rw [if_neg c9] at H;have c9b0:=cf_ c9;clear c9;by_cases c10:(rd l0 x5_1)>(rd l1 x5_1)
   ·rw [if_pos c10] at H;have c10b0:=ct_ c10;clear c10;obtain rfl:=oi_ H;have p213:0≤(x5_1:Int):=md_
    have q213:x5_1<(l0.length:Int):=md_
    obtain ⟨ad213,e213,hx213_0⟩:=Kd.at_int HR0.out x5_1 p213 q213;cases e213;replace p213:=eq_true p213;replace q213:=eq_true q213;have p214:0≤(x5_1:Int):=md_
    have q214:x5_1<(l1.length:Int):=md_
    obtain ⟨ad214,e214,hx214_0⟩:=Kd.at_int HR1.out x5_1 p214 q214;cases e214;replace p214:=eq_true p214;replace q214:=eq_true q214;have p215:0≤(x5_1:Int):=md_
    have q215:x5_1<(l0.length:Int):=md_
    obtain ⟨ad215,e215,hx215_0⟩:=Kd.at_int HR0.out x5_1 p215 q215;obtain rfl:ad213=ad215:=(by injection e215);replace p215:=eq_true p215;replace q215:=eq_true q215;have p216:0≤(x5_1:Int):=md_
    have q216:x5_1<(l1.length:Int):=md_
    obtain ⟨ad216,e216,hx216_0⟩:=Kd.at_int HR1.out x5_1 p216 q216;obtain rfl:ad214=ad216:=(by injection e216);replace p216:=eq_true p216;replace q216:=eq_true q216;exact ub24_0
   ·rw [if_neg c10] at H;have c10b0:=cf_ c10;clear c10;have H':=a_ H;clear H;have p213:0≤(x5_1:Int):=md_
    have q213:x5_1<(l0.length:Int):=md_
    obtain ⟨ad213,e213,hx213_0⟩:=Kd.at_int HR0.out x5_1 p213 q213;cases e213;replace p213:=eq_true p213;replace q213:=eq_true q213;have p214:0≤(x5_1:Int):=md_
    have q214:x5_1<(l1.length:Int):=md_
    obtain ⟨ad214,e214,hx214_0⟩:=Kd.at_int HR1.out x5_1 p214 q214;cases e214;replace p214:=eq_true p214;replace q214:=eq_true q214;have p215:0≤(x5_1:Int):=md_
    have q215:x5_1<(l0.length:Int):=md_
    obtain ⟨ad215,e215,hx215_0⟩:=Kd.at_int HR0.out x5_1 p215 q215;obtain rfl:ad213=ad215:=(by injection e215);replace p215:=eq_true p215;replace q215:=eq_true q215;have p216:0≤(x5_1:Int):=md_
    have q216:x5_1<(l1.length:Int):=md_
    obtain ⟨ad216,e216,hx216_0⟩:=Kd.at_int HR1.out x5_1 p216 q216;obtain rfl:ad214=ad216:=(by injection e216);replace p216:=eq_true p216;replace q216:=eq_true q216;go_wp2;repeat (go_quiet (fail);try go_wp2)
    go_roundg kj2
    case measure=>
     have:=HK1.out
     have:=HJ2.out
     omega
    case rel=>exact ⟨(wrap64 (x5_1+1)),mq_,H',⟨by have:=HK1.out;have:=HJ2.out;omega⟩,by repeat (first|exact Drawn0.refl _|apply Drawn0.step)⟩
 ·replace c5:=Bool.eq_false_iff.mpr c5;subst c5;rw [if_neg (show ¬(false=true) by decide)] at H;obtain rfl:=oi_ H;exact ub24_0
mutual
def spec_Recency.l0:Nat→List Int→List Int→Int→Int→Option (List Int)
 | 0,_,_,_,_=>none
 | k+1,x3,x11,x12,x13=>if x13<x12 then (if 0≤x13 then (if x13<(x11.length:Int) then (spec_Recency.l1 k x3 (rd x11 x13) (x3.length:Int) x11 x12 x13) else (none)) else (none)) else (some x3)
def spec_Recency.l1:Nat→List Int→Int→Int→List Int→Int→Int→Option (List Int)
 | 0,_,_,_,_,_,_=>none
 | k+1,x3,x5,x6,x11,x12,x13=>if x6>0 then (if 0≤(wrap64 (x6-1)) then (if (wrap64 (x6-1))<(x3.length:Int) then (if (rd x3 (wrap64 (x6-1)))<x5 then (spec_Recency.l1 k x3 x5 (wrap64 (x6-1)) x11 x12 x13) else (if 0≤x6 then (if x6≤(x3.length:Int) then ((some (x3.take (x6:Int).toNat:List Int)).bind fun y219=>(if ([]:List Int).length+y219.length<17592186044416 then ((some (([]:List Int)++y219:List Int)).bind fun y223=>(if y223.length<17592186044416 then ((some (y223++[x5]:List Int)).bind fun y226=>((some (x3.drop (x6:Int).toNat:List Int)).bind fun y229=>(if y226.length+y229.length<17592186044416 then (spec_Recency.l0 k (y226++y229) x11 x12 (wrap64 (x13+1))) else (none)))) else (none))) else (none))) else (none)) else (none))) else (none)) else (none)) else (if 0≤x6 then (if x6≤(x3.length:Int) then ((some (x3.take (x6:Int).toNat:List Int)).bind fun y236=>(if ([]:List Int).length+y236.length<17592186044416 then ((some (([]:List Int)++y236:List Int)).bind fun y240=>(if y240.length<17592186044416 then ((some (y240++[x5]:List Int)).bind fun y243=>((some (x3.drop (x6:Int).toNat:List Int)).bind fun y246=>(if y243.length+y246.length<17592186044416 then (spec_Recency.l0 k (y243++y246) x11 x12 (wrap64 (x13+1))) else (none)))) else (none))) else (none))) else (none)) else (none))
end
def spec_Recency.f (k:Nat) (l0:List Int):Option (List Int):=if (l0.length:Int)>1000 then (some ([]:List Int)) else (spec_Recency.l0 k ([]:List Int) l0 (l0.length:Int) 0)
theorem spec_Recency.mono_l:∀k,(∀y0 y1 y2 y3,LeO (spec_Recency.l0 k y0 y1 y2 y3) (spec_Recency.l0 (k+1) y0 y1 y2 y3))∧(∀y0 y1 y2 y3 y4 y5,LeO (spec_Recency.l1 k y0 y1 y2 y3 y4 y5) (spec_Recency.l1 (k+1) y0 y1 y2 y3 y4 y5))
 | 0=>⟨fun _ _ _ _ r h=>by simp [spec_Recency.l0] at h,fun _ _ _ _ _ _ r h=>by simp [spec_Recency.l1] at h⟩
 | k+1=>by
  obtain ⟨ih0,ih1⟩:=spec_Recency.mono_l k;refine ⟨?_,?_⟩
  ·intro y0 y1 y2 y3;unfold spec_Recency.l0
   repeat' with_reducible first|apply ih0|apply ih1|apply LeO.refl|apply LeO.none|refine LeO.ite ?_ ?_|refine LeO.bind ?_ (fun _=>?_)
  ·intro y0 y1 y2 y3 y4 y5;unfold spec_Recency.l1
   repeat' with_reducible first|apply ih0|apply ih1|apply LeO.refl|apply LeO.none|refine LeO.ite ?_ ?_|refine LeO.bind ?_ (fun _=>?_)
theorem spec_Recency.mono:∀a0 k,LeO (spec_Recency.f k a0) (spec_Recency.f (k+1) a0):=by
 intro a0 k;obtain ⟨ih0,ih1⟩:=spec_Recency.mono_l k;unfold spec_Recency.f
 repeat' with_reducible first|apply ih0|apply ih1|apply LeO.refl|apply LeO.none|refine LeO.ite ?_ ?_|refine LeO.bind ?_ (fun _=>?_)
set_option maxHeartbeats 8000000 in
set_option maxRecDepth 100000 in
theorem spec_Recency.calls (k:Nat) (A0:Option Addr) (c0:Nat) (l0:List Int) (r:List Int) (w:World) (hr0:Kd.C (Kd.int .i64) w A0 l0.length l0) (hc0:l0.length≤c0) (h:spec_Recency.f k l0=some r):
  Calls Tryz.prog 51 #[.slice A0 l0.length c0] w fun e w'=>∃v0_:Value,e=.returned (v0_)∧Kd.R (Kd.int .i64) 3 w' w.heap.size (fun _=>True) v0_ r∧Below w.heap.size w w':=by
 have HR0:=a_ hr0;have HC0:=a_ hc0;clear hr0 hc0;have HB:=a_ (Below.refl w.heap.size w);have H:=h;unfold spec_Recency.f at H
 clear h;by_cases c2:(l0.length:Int)>1000
 ·rw [if_pos c2] at H;have c2b0:=ct_ c2;have c2b1:decide (1000<l0.length)=true:=decide_eq_true (by omega)
  clear c2;obtain rfl:=oi_ H;go_enter Tryz.func51,Tryz.ntmps51;go_wp2;go_ret;exact ⟨_,me_,by first|exact Kd.R_nil _ _ _ _ _|exact Kd.N_nil _ _ _ _ _|exact Kd.V_nil _ _ _ _ _|exact Kd.Q_nil _ _ _ _ _|exact Kd.S_nil _ _ _ _ _,mb_ HB⟩
 ·rw [if_neg c2] at H;have c2b0:=cf_ c2;have c2b1:decide (1000<l0.length)=false:=decide_eq_false (by omega)
  clear c2;have H':=a_ H;clear H;go_enter Tryz.func51,Tryz.ntmps51;go_wp2;go_loopg [3,13] k (fun kq v3 v13 w'=>∃(x3_1:List Int) (x13_1:Int),v13=.int .i64 x13_1∧Aside0 (spec_Recency.l0 kq x3_1 l0 (l0.length:Int) x13_1=some r)∧Aside0 (kq≤k)∧Aside0 (Kd.R (Kd.int .i64) 3 w' w.heap.size (fun _=>True) v3 x3_1)∧Aside0 (Below w.heap.size w w'))
  case atStart=>exact ⟨(([]:List Int)),(0),mq_,H',⟨Nat.le_refl _⟩,⟨by first|exact Kd.R_nil _ _ _ _ _|exact Kd.N_nil _ _ _ _ _|exact Kd.V_nil _ _ _ _ _|exact Kd.Q_nil _ _ _ _ _|exact Kd.S_nil _ _ _ _ _⟩,⟨mb_ HB⟩⟩
  clear H';(try clear c2b0);(try clear c2b1);obtain ⟨x3_1,x13_1,rfl,HA,HK1,HO_3,HB⟩:=hrel;obtain _|k1:=gk
  ·exact absurd HA.out (by simp [spec_Recency.l0])
  have H:=HA.out;clear HA;simp only [spec_Recency.l0] at H;by_cases c3:x13_1<(l0.length:Int)
  ·rw [if_pos c3] at H;have c3b0:=ct_ c3;clear c3;by_cases c4:0≤x13_1
   case neg=>
    rw [if_neg c4] at H;cases H
   rw [if_pos c4] at H;have c4b0:=ct_ c4;clear c4;by_cases c5:x13_1<(l0.length:Int)
   case neg=>
    rw [if_neg c5] at H;cases H
   rw [if_pos c5] at H;have c5b0:=ct_ c5;clear c5;have H':=a_ H;clear H;have p217:0≤(x13_1:Int):=md_
   have q217:x13_1<(l0.length:Int):=md_
   obtain ⟨ad217,e217,hx217_0⟩:=Kd.at_int HR0.out x13_1 p217 q217;cases e217;replace hx217_0:=mx_ HB hx217_0;replace p217:=eq_true p217;replace q217:=eq_true q217;obtain ⟨Ao6,co6,eo6⟩:=Kd.R_slice HO_3.out;subst eo6;go_wp2;go_loopg [6] k1 (fun kq v6 w'=>∃(x6_2:Int),v6=.int .i64 x6_2∧Aside0 (spec_Recency.l1 kq x3_1 (rd l0 x13_1) x6_2 l0 (l0.length:Int) x13_1=some r)∧Aside0 (kq≤k1)∧Aside0 (Kd.R (Kd.int .i64) 3 w' w.heap.size (fun _=>True) (.slice Ao6 x3_1.length co6) x3_1)∧Aside0 (Below w.heap.size w w'))
   case atStart=>exact ⟨((x3_1.length:Int)),mq_,H',⟨Nat.le_refl _⟩,⟨mo_ HO_3.out⟩,⟨mb_ HB⟩⟩
   clear H';(try clear c3b0);(try clear c4b0);(try clear c5b0);(try clear hx217_0);(try clear p217);(try clear q217);obtain ⟨x6_2,rfl,HA,HK2,HO_3,HB⟩:=hrel;obtain _|k2:=gk
   ·exact absurd HA.out (by simp [spec_Recency.l1])
   have H:=HA.out;clear HA;simp only [spec_Recency.l1] at H;by_cases c7:x6_2>0
   ·rw [if_pos c7] at H;have c7b0:=ct_ c7;clear c7;obtain ⟨ji8,hji8⟩:∃j_:Int,(wrap64 (x6_2-1))=j_:=⟨_,rfl⟩;replace H:(if 0≤(ji8) then (if (ji8)<(x3_1.length:Int) then (if (rd x3_1 (ji8))<(rd l0 x13_1) then (spec_Recency.l1 k2 x3_1 (rd l0 x13_1) ji8 l0 (l0.length:Int) x13_1) else (if 0≤x6_2 then (if x6_2≤(x3_1.length:Int) then ((some (x3_1.take (x6_2:Int).toNat:List Int)).bind fun y219=>(if ([]:List Int).length+y219.length<17592186044416 then ((some (([]:List Int)++y219:List Int)).bind fun y223=>(if y223.length<17592186044416 then ((some (y223++[(rd l0 x13_1)]:List Int)).bind fun y226=>((some (x3_1.drop (x6_2:Int).toNat:List Int)).bind fun y229=>(if y226.length+y229.length<17592186044416 then (spec_Recency.l0 k2 (y226++y229) l0 (l0.length:Int) (wrap64 (x13_1+1))) else (none)))) else (none))) else (none))) else (none)) else (none))) else (none)) else (none))=some r:=by first|(rw [hji8] at H;exact H)|(simp only [hji8] at H ⊢;exact H)
    have hji8w:(IntKind.i64.wrap (x6_2-1))=ji8:=(i64_w _).trans hji8
    by_cases c9:0≤(ji8)
    case neg=>
     rw [if_neg c9] at H;cases H
    rw [if_pos c9] at H;have c9b0:=ct_ c9;clear c9;by_cases c10:(ji8)<(x3_1.length:Int)
    case neg=>
     rw [if_neg c10] at H;cases H
    rw [if_pos c10] at H;have c10b0:=ct_ c10;clear c10;by_cases c11:(rd x3_1 (ji8))<(rd l0 x13_1)
    ·rw [if_pos c11] at H;have c11b0:=ct_ c11;clear c11;have H':=a_ H;clear H;have p218:0≤((ji8):Int):=md_
     have q218:(ji8)<(x3_1.length:Int):=md_
     obtain ⟨ad218,e218,hx218_0⟩:=Kd.at_int (Kd.R_reads' HO_3.out).2.2 (ji8) p218 q218;cases e218;replace p218:=eq_true p218;replace q218:=eq_true q218;go_wp2;go_roundg k2
     case measure=>
      have:=HK1.out
      have:=HK2.out
      omega
     case rel=>exact ⟨(ji8),(by first|rfl|(simp;done)|(simp only [←hji8]<;>(first|rfl|simp))|(simp [*];done)),H',⟨by have:=HK1.out;have:=HK2.out;omega⟩,⟨mo_ HO_3.out⟩,⟨mb_ HB⟩⟩
    ·rw [if_neg c11] at H;have c11b0:=cf_ c11;clear c11;by_cases c12:0≤x6_2
     case neg=>
      rw [if_neg c12] at H;cases H
     rw [if_pos c12] at H;have c12b0:=eq_true c12;have c12b1:=ct_ c12;clear c12;by_cases c13:x6_2≤(x3_1.length:Int)
     case neg=>
      rw [if_neg c13] at H;cases H
     rw [if_pos c13] at H;have c13b0:=eq_true c13;have c13b1:=ct_ c13;clear c13;obtain ⟨y219,hy219⟩:∃y_:List Int,y_=(x3_1.take (x6_2:Int).toNat):=⟨_,rfl⟩;rw [←hy219] at H;(try rw [Option.bind_some] at H);have Ny219:=a_ hy219;clear hy219;by_cases c14:([]:List Int).length+y219.length<17592186044416
     case neg=>
      rw [if_neg c14] at H;cases H
     rw [if_pos c14] at H;have LMc14:=a_ c14;clear c14;obtain ⟨y223,hy223⟩:∃y_:List Int,y_=(([]:List Int)++y219):=⟨_,rfl⟩;rw [←hy223] at H;(try rw [Option.bind_some] at H);have Ny223:=a_ hy223;clear hy223;by_cases c15:y223.length<17592186044416
     case neg=>
      rw [if_neg c15] at H;cases H
     rw [if_pos c15] at H;have LMc15:=a_ c15;clear c15;obtain ⟨y226,hy226⟩:∃y_:List Int,y_=(y223++[(rd l0 x13_1)]):=⟨_,rfl⟩;rw [←hy226] at H;(try rw [Option.bind_some] at H);have Ny226:=a_ hy226;clear hy226;have c16b0:=eq_true (md_:0≤x6_2);have c17b0:=eq_true (md_:x6_2≤(x3_1.length:Int));obtain ⟨y229,hy229⟩:∃y_:List Int,y_=(x3_1.drop (x6_2:Int).toNat):=⟨_,rfl⟩;rw [←hy229] at H;(try rw [Option.bind_some] at H);have Ny229:=a_ hy229;clear hy229;by_cases c18:y226.length+y229.length<17592186044416
     case neg=>
      rw [if_neg c18] at H;cases H
     rw [if_pos c18] at H;have LMc18:=a_ c18;clear c18;obtain ⟨y233,hy233⟩:∃y_:List Int,y_=(y226++y229):=⟨_,rfl⟩;rw [←hy233] at H;(try rw [Option.bind_some] at H);have Ny233:=a_ hy233;clear hy233;have H':=a_ H;clear H;have p218:0≤((ji8):Int):=md_
     have q218:(ji8)<(x3_1.length:Int):=md_
     obtain ⟨ad218,e218,hx218_0⟩:=Kd.at_int (Kd.R_reads' HO_3.out).2.2 (ji8) p218 q218;cases e218;replace p218:=eq_true p218;replace q218:=eq_true q218;have q19:(x6_2:Int)≤((x3_1.length:Int):Int):=md_
     obtain ⟨i019,hi019,_,hsz19,_⟩:=info_parts info3;have hroom19:x3_1.length≤co6:=(Kd.R_reads' HO_3.out).2.1
     have hC19:Kd.C (Kd.int .i64) _ (some ad218) x3_1.length x3_1:=(Kd.R_reads' HO_3.out).2.2
     have hcut19:=cut_to (P:=Tryz.prog) 23 3 .i64 Tryz.underlying23 hi019 (some ad218) x3_1.length co6 x6_2 (md_) q19 hroom19;have hr19:=Kd.C_take (m:=(x6_2:Int).toNat) hC19 (by omega);have hy19:y219.length=(x6_2:Int).toNat:=(by rw [Ny219.out,List.length_take];omega)
     rw [←Ny219.out] at hr19;rw [←hy19] at hcut19;have HR222:=a_ hr19;have HC222:=a_ (show y219.length≤co6 from by omega);clear hr19 hC19 hroom19 hi019 hsz19;have KY19:=a_ hy19;clear hy19;have KL19:=a_ (show (x6_2:Int).toNat≤x3_1.length from by omega);replace q19:=eq_true q19;go_wp2_with (first|((with_reducible refine gate_builtin (b:=.append) (xs:=#[.tmp 32,.tmp 35]) rfl ?_);at_builtin;refine Kd.R_append_rows (Kd.int .i64) (w0:=w) w.heap.size rfl (.tmp 32) (.tmp 35) 23 3 (.int .i64 0) 8 rfl Tryz.underlying23 info3 rfl (by decide) (by omega) (.slice none 0 0) ([]:List Int) y219 _ _ _ (fun k_=>some k_≠(.slice (some ad218) x3_1.length co6:Value).ownBlock) (fun _=>False) rfl rfl ?aO ?aR (fun _ _ h=>h) (fun _ h=>h.elim) ?aF ?aB ?aS ?aL ?_;(case aR=>repeat (first|exact (by repeat (first|(with_reducible exact HR222.out)|(with_reducible refine Kd.C_alloc ?_ _)|(with_reducible refine Kd.C_drewN ?_ _)|(with_reducible refine Kd.C_drew ?_)|exact HR222.out))|(with_reducible refine Kd.C_alloc ?_ _)|(with_reducible refine Kd.C_drewN ?_ _)|(with_reducible refine Kd.C_drew ?_)));(case aB=>exact (mb_ HB));(case aF=>exact (fun k_ hk=>Kd.fresh' (Kd.R_lt (mo_ HO_3.out)) k_ hk));(case aO=>exact ((Kd.R_nil _ _ _ _ (fun k_=>some k_≠(.slice (some ad218) x3_1.length co6:Value).ownBlock))));(case aS=>exact (below_size (mb_ HB)));(case aL=>have:=LMc14.out;omega);intro v224 wx ho hb hg hat;rw [←Ny223.out] at ho;have n0_:=a_ (Kd.R_after (Kd.R_apart_nil (mo_ HO_3.out)) hg hat);have n1_:=a_ (hb);have n2_:=a_ ((show Kd.C (Kd.int .i64) wx (some ad218) y219.length y219 from by rw [Ny219.out];exact Kd.C_take (m:=(x6_2:Int).toNat) ((Kd.R_reads' (Kd.R_after (Kd.R_apart_nil (mo_ HO_3.out)) hg hat)).2.2) KL19.out));have n3_:=a_ (ho);clear HO_3;clear HB;clear HR222;have HO_3:=n0_;have HB:=n1_;have HR222:=n2_;have HO225:=n3_;clear n0_ n1_ n2_ n3_;clear ho hb hg hat)|((with_reducible refine gate_builtin (b:=.append) (xs:=#[.tmp 37,.tmp 39]) rfl ?_);at_builtin;refine Kd.R_append (Kd.int .i64) (w0:=w) w.heap.size rfl (.tmp 37) (.tmp 39) 23 3 (.int .i64 0) 8 rfl Tryz.underlying23 info3 rfl (by decide) (by omega) v224 y223 (rd l0 x13_1) [.int .i64 (rd l0 x13_1)] (fun k_=>some k_≠(.slice (some ad218) x3_1.length co6:Value).ownBlock) (fun _=>False) rfl rfl ?aP (fun _ hk=>hk.elim) ?aF ?aO ?aB ?aS ?aL ?_;(case aP=>exact rfl);(case aB=>exact (mb_ HB));(case aF=>exact (fun k_ hk=>Kd.fresh' (Kd.R_lt (mo_ HO_3.out)) k_ hk));(case aO=>exact (mo_ HO225.out));(case aS=>exact (below_size (mb_ HB)));(case aL=>have:=LMc15.out;omega);intro v227 wx ho hb hg hat;rw [←Ny226.out] at ho;have n0_:=a_ (Kd.R_after (ok:=(fun _=>True)) (mo_ HO_3.out) hg hat);have n1_:=a_ (hb);have n2_:=a_ ((show Kd.C (Kd.int .i64) wx (some ad218) y219.length y219 from by rw [Ny219.out];exact Kd.C_take (m:=(x6_2:Int).toNat) ((Kd.R_reads' (Kd.R_after (ok:=(fun _=>True)) (mo_ HO_3.out) hg hat)).2.2) KL19.out));have n3_:=a_ (ho);clear HO_3;clear HB;clear HR222;clear HO225;have HO_3:=n0_;have HB:=n1_;have HR222:=n2_;have HO228:=n3_;clear n0_ n1_ n2_ n3_;clear ho hb hg hat;have q22:(x6_2:Int)≤((x3_1.length:Int):Int):=md_;obtain ⟨i022,hi022,_,hsz22,_⟩:=info_parts info3;have hroom22:x3_1.length≤co6:=(Kd.R_reads' HO_3.out).2.1;have hC22:Kd.C (Kd.int .i64) _ (some ad218) x3_1.length x3_1:=(Kd.R_reads' HO_3.out).2.2;have q022:(0:Int)≤(x6_2:Int):=md_;have hcut22:=cut_from (P:=Tryz.prog) 23 3 .i64 Tryz.underlying23 hi022 1 hsz22 (some ad218) x3_1.length co6 x6_2 q022 q22;have hr22:=Kd.C_drop (m:=(x6_2:Int).toNat) (c:=co6) hC22 (by omega) hroom22;obtain ⟨A22,hA22⟩:∃A1,A1=(if co6=(x6_2:Int).toNat then (some ad218) else ((some ad218):Option Addr).map (·.add ((x6_2:Int).toNat*1))):=⟨_,rfl⟩;obtain ⟨c22,hc22⟩:∃c1,c1=co6-(x6_2:Int).toNat:=⟨_,rfl⟩;have hy22:y229.length=x3_1.length-(x6_2:Int).toNat:=(by rw [Ny229.out,List.length_drop]<;>omega);rw [show (x3_1).drop (x6_2:Int).toNat=y229 from Ny229.out.symm] at hr22;replace hr22:Kd.C (Kd.int .i64) _ A22 y229.length y229:=(by rw [hA22];exact hr22);rw [←hy22,←hA22,←hc22] at hcut22;have HR232:=a_ hr22;have HC232:=a_ (show y229.length≤c22 from by rw [hy22,hc22];exact Nat.sub_le_sub_right hroom22 _);clear hr22 hC22 hroom22 hi022 hsz22 hc22;have KY22:=a_ hy22;have KA22:=a_ hA22;clear hy22 hA22;have KL22:=a_ (show (x6_2:Int).toNat≤x3_1.length from by omega);replace q22:=eq_true q22)|((with_reducible refine gate_builtin (b:=.append) (xs:=#[.tmp 41,.tmp 44]) rfl ?_);at_builtin;refine Kd.R_append_rows (Kd.int .i64) (w0:=w) w.heap.size rfl (.tmp 41) (.tmp 44) 23 3 (.int .i64 0) 8 rfl Tryz.underlying23 info3 rfl (by decide) (by omega) v227 y226 y229 _ _ _ (fun k_=>some k_≠(.slice (some ad218) x3_1.length co6:Value).ownBlock) (fun _=>False) rfl rfl ?aO ?aR (fun _ _ h=>h) (fun _ h=>h.elim) ?aF ?aB ?aS ?aL ?_;(case aR=>repeat (first|exact (by repeat (first|(with_reducible exact HR232.out)|(with_reducible refine Kd.C_alloc ?_ _)|(with_reducible refine Kd.C_drewN ?_ _)|(with_reducible refine Kd.C_drew ?_)|exact HR232.out))|(with_reducible refine Kd.C_alloc ?_ _)|(with_reducible refine Kd.C_drewN ?_ _)|(with_reducible refine Kd.C_drew ?_)));(case aB=>exact (mb_ HB));(case aF=>exact (fun k_ hk=>Kd.fresh' (Kd.R_lt (mo_ HO_3.out)) k_ hk));(case aO=>exact (mo_ HO228.out));(case aS=>exact (below_size (mb_ HB)));(case aL=>have:=LMc18.out;omega);intro v234 wx ho hb hg hat;rw [←Ny233.out] at ho;have n0_:=a_ (Kd.R_after (ok:=(fun _=>True)) (mo_ HO_3.out) hg hat);have n1_:=a_ (hb);have n2_:=a_ ((show Kd.C (Kd.int .i64) wx (some ad218) y219.length y219 from by rw [Ny219.out];exact Kd.C_take (m:=(x6_2:Int).toNat) ((Kd.R_reads' (Kd.R_after (ok:=(fun _=>True)) (mo_ HO_3.out) hg hat)).2.2) KL19.out));have n3_:=a_ ((show Kd.C (Kd.int .i64) wx A22 y229.length y229 from by rw [Ny229.out,KA22.out];exact Kd.C_drop (m:=(x6_2:Int).toNat) (c:=co6) ((Kd.R_reads' (Kd.R_after (ok:=(fun _=>True)) (mo_ HO_3.out) hg hat)).2.2) KL22.out ((Kd.R_reads' (Kd.R_after (ok:=(fun _=>True)) (mo_ HO_3.out) hg hat)).2.1)));have n4_:=a_ (ho);clear HO_3;clear HB;clear HR222;clear HR232;clear HO228;have HO_3:=n0_;have HB:=n1_;have HR222:=n2_;have HR232:=n3_;have HO235:=n4_;clear n0_ n1_ n2_ n3_ n4_;clear ho hb hg hat))
     go_roundg k2
     case measure=>
      have:=HK1.out
      have:=HK2.out
      omega
     case rel=>exact ⟨(y233),(wrap64 (x13_1+1)),mq_,H',⟨by have:=HK1.out;have:=HK2.out;omega⟩,⟨mo_ (Kd.R_mono HO235.out (fun _ hk=>trivial))⟩,⟨mb_ HB⟩⟩
   ·rw [if_neg c7] at H;have c7b0:=cf_ c7;clear c7;by_cases c24:0≤x6_2
    case neg=>
     rw [if_neg c24] at H;cases H
    rw [if_pos c24] at H;have c24b0:=eq_true c24;have c24b1:=ct_ c24;clear c24;by_cases c25:x6_2≤(x3_1.length:Int)
    case neg=>
     rw [if_neg c25] at H;cases H
    rw [if_pos c25] at H;have c25b0:=eq_true c25;have c25b1:=ct_ c25;clear c25;obtain ⟨y236,hy236⟩:∃y_:List Int,y_=(x3_1.take (x6_2:Int).toNat):=⟨_,rfl⟩;rw [←hy236] at H;(try rw [Option.bind_some] at H);have Ny236:=a_ hy236;clear hy236;by_cases c26:([]:List Int).length+y236.length<17592186044416
    case neg=>
     rw [if_neg c26] at H;cases H
    rw [if_pos c26] at H;have LMc26:=a_ c26;clear c26;obtain ⟨y240,hy240⟩:∃y_:List Int,y_=(([]:List Int)++y236):=⟨_,rfl⟩;rw [←hy240] at H;(try rw [Option.bind_some] at H);have Ny240:=a_ hy240;clear hy240;by_cases c27:y240.length<17592186044416
    case neg=>
     rw [if_neg c27] at H;cases H
    rw [if_pos c27] at H;have LMc27:=a_ c27;clear c27;obtain ⟨y243,hy243⟩:∃y_:List Int,y_=(y240++[(rd l0 x13_1)]):=⟨_,rfl⟩;rw [←hy243] at H;(try rw [Option.bind_some] at H);have Ny243:=a_ hy243;clear hy243;have c28b0:=eq_true (md_:0≤x6_2);have c29b0:=eq_true (md_:x6_2≤(x3_1.length:Int));obtain ⟨y246,hy246⟩:∃y_:List Int,y_=(x3_1.drop (x6_2:Int).toNat):=⟨_,rfl⟩;rw [←hy246] at H;(try rw [Option.bind_some] at H);have Ny246:=a_ hy246;clear hy246;by_cases c30:y243.length+y246.length<17592186044416
    case neg=>
     rw [if_neg c30] at H;cases H
    rw [if_pos c30] at H;have LMc30:=a_ c30;clear c30;obtain ⟨y250,hy250⟩:∃y_:List Int,y_=(y243++y246):=⟨_,rfl⟩;rw [←hy250] at H;(try rw [Option.bind_some] at H);have Ny250:=a_ hy250;clear hy250;have H':=a_ H;clear H;have q31:(x6_2:Int)≤((x3_1.length:Int):Int):=md_
    obtain ⟨i031,hi031,_,hsz31,_⟩:=info_parts info3;have hroom31:x3_1.length≤co6:=(Kd.R_reads' HO_3.out).2.1
    have hC31:Kd.C (Kd.int .i64) _ Ao6 x3_1.length x3_1:=(Kd.R_reads' HO_3.out).2.2
    have hcut31:=cut_to (P:=Tryz.prog) 23 3 .i64 Tryz.underlying23 hi031 Ao6 x3_1.length co6 x6_2 (md_) q31 hroom31;have hr31:=Kd.C_take (m:=(x6_2:Int).toNat) hC31 (by omega);have hy31:y236.length=(x6_2:Int).toNat:=(by rw [Ny236.out,List.length_take];omega)
    rw [←Ny236.out] at hr31;rw [←hy31] at hcut31;have HR239:=a_ hr31;have HC239:=a_ (show y236.length≤co6 from by omega);clear hr31 hC31 hroom31 hi031 hsz31;have KY31:=a_ hy31;clear hy31;have KL31:=a_ (show (x6_2:Int).toNat≤x3_1.length from by omega);replace q31:=eq_true q31;go_wp2_with (first|((with_reducible refine gate_builtin (b:=.append) (xs:=#[.tmp 32,.tmp 35]) rfl ?_);at_builtin;refine Kd.R_append_rows (Kd.int .i64) (w0:=w) w.heap.size rfl (.tmp 32) (.tmp 35) 23 3 (.int .i64 0) 8 rfl Tryz.underlying23 info3 rfl (by decide) (by omega) (.slice none 0 0) ([]:List Int) y236 _ _ _ (fun k_=>some k_≠(.slice Ao6 x3_1.length co6:Value).ownBlock) (fun _=>False) rfl rfl ?aO ?aR (fun _ _ h=>h) (fun _ h=>h.elim) ?aF ?aB ?aS ?aL ?_;(case aR=>repeat (first|exact (by repeat (first|(with_reducible exact HR239.out)|(with_reducible refine Kd.C_alloc ?_ _)|(with_reducible refine Kd.C_drewN ?_ _)|(with_reducible refine Kd.C_drew ?_)|exact HR239.out))|(with_reducible refine Kd.C_alloc ?_ _)|(with_reducible refine Kd.C_drewN ?_ _)|(with_reducible refine Kd.C_drew ?_)));(case aB=>exact (mb_ HB));(case aF=>exact (fun k_ hk=>Kd.fresh' (Kd.R_lt (mo_ HO_3.out)) k_ hk));(case aO=>exact ((Kd.R_nil _ _ _ _ (fun k_=>some k_≠(.slice Ao6 x3_1.length co6:Value).ownBlock))));(case aS=>exact (below_size (mb_ HB)));(case aL=>have:=LMc26.out;omega);intro v241 wx ho hb hg hat;rw [←Ny240.out] at ho;have n0_:=a_ (Kd.R_after (Kd.R_apart_nil (mo_ HO_3.out)) hg hat);have n1_:=a_ (hb);have n2_:=a_ ((show Kd.C (Kd.int .i64) wx Ao6 y236.length y236 from by rw [Ny236.out];exact Kd.C_take (m:=(x6_2:Int).toNat) ((Kd.R_reads' (Kd.R_after (Kd.R_apart_nil (mo_ HO_3.out)) hg hat)).2.2) KL31.out));have n3_:=a_ (ho);clear HO_3;clear HB;clear HR239;have HO_3:=n0_;have HB:=n1_;have HR239:=n2_;have HO242:=n3_;clear n0_ n1_ n2_ n3_;clear ho hb hg hat)|((with_reducible refine gate_builtin (b:=.append) (xs:=#[.tmp 37,.tmp 39]) rfl ?_);at_builtin;refine Kd.R_append (Kd.int .i64) (w0:=w) w.heap.size rfl (.tmp 37) (.tmp 39) 23 3 (.int .i64 0) 8 rfl Tryz.underlying23 info3 rfl (by decide) (by omega) v241 y240 (rd l0 x13_1) [.int .i64 (rd l0 x13_1)] (fun k_=>some k_≠(.slice Ao6 x3_1.length co6:Value).ownBlock) (fun _=>False) rfl rfl ?aP (fun _ hk=>hk.elim) ?aF ?aO ?aB ?aS ?aL ?_;(case aP=>exact rfl);(case aB=>exact (mb_ HB));(case aF=>exact (fun k_ hk=>Kd.fresh' (Kd.R_lt (mo_ HO_3.out)) k_ hk));(case aO=>exact (mo_ HO242.out));(case aS=>exact (below_size (mb_ HB)));(case aL=>have:=LMc27.out;omega);intro v244 wx ho hb hg hat;rw [←Ny243.out] at ho;have n0_:=a_ (Kd.R_after (ok:=(fun _=>True)) (mo_ HO_3.out) hg hat);have n1_:=a_ (hb);have n2_:=a_ ((show Kd.C (Kd.int .i64) wx Ao6 y236.length y236 from by rw [Ny236.out];exact Kd.C_take (m:=(x6_2:Int).toNat) ((Kd.R_reads' (Kd.R_after (ok:=(fun _=>True)) (mo_ HO_3.out) hg hat)).2.2) KL31.out));have n3_:=a_ (ho);clear HO_3;clear HB;clear HR239;clear HO242;have HO_3:=n0_;have HB:=n1_;have HR239:=n2_;have HO245:=n3_;clear n0_ n1_ n2_ n3_;clear ho hb hg hat;have q34:(x6_2:Int)≤((x3_1.length:Int):Int):=md_;obtain ⟨i034,hi034,_,hsz34,_⟩:=info_parts info3;have hroom34:x3_1.length≤co6:=(Kd.R_reads' HO_3.out).2.1;have hC34:Kd.C (Kd.int .i64) _ Ao6 x3_1.length x3_1:=(Kd.R_reads' HO_3.out).2.2;have q034:(0:Int)≤(x6_2:Int):=md_;have hcut34:=cut_from (P:=Tryz.prog) 23 3 .i64 Tryz.underlying23 hi034 1 hsz34 Ao6 x3_1.length co6 x6_2 q034 q34;have hr34:=Kd.C_drop (m:=(x6_2:Int).toNat) (c:=co6) hC34 (by omega) hroom34;obtain ⟨A34,hA34⟩:∃A1,A1=(if co6=(x6_2:Int).toNat then Ao6 else (Ao6:Option Addr).map (·.add ((x6_2:Int).toNat*1))):=⟨_,rfl⟩;obtain ⟨c34,hc34⟩:∃c1,c1=co6-(x6_2:Int).toNat:=⟨_,rfl⟩;have hy34:y246.length=x3_1.length-(x6_2:Int).toNat:=(by rw [Ny246.out,List.length_drop]<;>omega);rw [show (x3_1).drop (x6_2:Int).toNat=y246 from Ny246.out.symm] at hr34;replace hr34:Kd.C (Kd.int .i64) _ A34 y246.length y246:=(by rw [hA34];exact hr34);rw [←hy34,←hA34,←hc34] at hcut34;have HR249:=a_ hr34;have HC249:=a_ (show y246.length≤c34 from by rw [hy34,hc34];exact Nat.sub_le_sub_right hroom34 _);clear hr34 hC34 hroom34 hi034 hsz34 hc34;have KY34:=a_ hy34;have KA34:=a_ hA34;clear hy34 hA34;have KL34:=a_ (show (x6_2:Int).toNat≤x3_1.length from by omega);replace q34:=eq_true q34)|((with_reducible refine gate_builtin (b:=.append) (xs:=#[.tmp 41,.tmp 44]) rfl ?_);at_builtin;refine Kd.R_append_rows (Kd.int .i64) (w0:=w) w.heap.size rfl (.tmp 41) (.tmp 44) 23 3 (.int .i64 0) 8 rfl Tryz.underlying23 info3 rfl (by decide) (by omega) v244 y243 y246 _ _ _ (fun k_=>some k_≠(.slice Ao6 x3_1.length co6:Value).ownBlock) (fun _=>False) rfl rfl ?aO ?aR (fun _ _ h=>h) (fun _ h=>h.elim) ?aF ?aB ?aS ?aL ?_;(case aR=>repeat (first|exact (by repeat (first|(with_reducible exact HR249.out)|(with_reducible refine Kd.C_alloc ?_ _)|(with_reducible refine Kd.C_drewN ?_ _)|(with_reducible refine Kd.C_drew ?_)|exact HR249.out))|(with_reducible refine Kd.C_alloc ?_ _)|(with_reducible refine Kd.C_drewN ?_ _)|(with_reducible refine Kd.C_drew ?_)));(case aB=>exact (mb_ HB));(case aF=>exact (fun k_ hk=>Kd.fresh' (Kd.R_lt (mo_ HO_3.out)) k_ hk));(case aO=>exact (mo_ HO245.out));(case aS=>exact (below_size (mb_ HB)));(case aL=>have:=LMc30.out;omega);intro v251 wx ho hb hg hat;rw [←Ny250.out] at ho;have n0_:=a_ (Kd.R_after (ok:=(fun _=>True)) (mo_ HO_3.out) hg hat);have n1_:=a_ (hb);have n2_:=a_ ((show Kd.C (Kd.int .i64) wx Ao6 y236.length y236 from by rw [Ny236.out];exact Kd.C_take (m:=(x6_2:Int).toNat) ((Kd.R_reads' (Kd.R_after (ok:=(fun _=>True)) (mo_ HO_3.out) hg hat)).2.2) KL31.out));have n3_:=a_ ((show Kd.C (Kd.int .i64) wx A34 y246.length y246 from by rw [Ny246.out,KA34.out];exact Kd.C_drop (m:=(x6_2:Int).toNat) (c:=co6) ((Kd.R_reads' (Kd.R_after (ok:=(fun _=>True)) (mo_ HO_3.out) hg hat)).2.2) KL34.out ((Kd.R_reads' (Kd.R_after (ok:=(fun _=>True)) (mo_ HO_3.out) hg hat)).2.1)));have n4_:=a_ (ho);clear HO_3;clear HB;clear HR239;clear HR249;clear HO245;have HO_3:=n0_;have HB:=n1_;have HR239:=n2_;have HR249:=n3_;have HO252:=n4_;clear n0_ n1_ n2_ n3_ n4_;clear ho hb hg hat))
    go_roundg k2
    case measure=>
     have:=HK1.out
     have:=HK2.out
     omega
    case rel=>exact ⟨(y250),(wrap64 (x13_1+1)),mq_,H',⟨by have:=HK1.out;have:=HK2.out;omega⟩,⟨mo_ (Kd.R_mono HO252.out (fun _ hk=>trivial))⟩,⟨mb_ HB⟩⟩
  ·rw [if_neg c3] at H;have c3b0:=cf_ c3;clear c3;obtain rfl:=oi_ H;go_wp2;go_ret;exact ⟨_,me_,mo_ HO_3.out,mb_ HB⟩
end Go.Proofs.YtejjlkbbnhpbdaaGreat.P
namespace Go.Proofs.YtejjlkbbnhpbdaaGreat.P
open Go.Proofs.YtejjlkbbnhpbdaaGreatX
open Go.RowKit Go.Proofs.YtejjlkbbnhpbdaaGreatW.PrintWords Go.Proofs.YtejjlkbbnhpbdaaGreatW.PrintLast Go.Proofs.YtejjlkbbnhpbdaaGreatW.PrintMore
attribute [local go_sem] max2_int min2_int max_two min_two max_three min_three max_four min_four
set_option linter.unusedVariables false
set_option linter.unusedSimpArgs false
def spec_l5Before.f (k:Nat) (l0:List (S58)) (a1_0:Int) (l1_1:List Int) (a2_0:Int) (l2_1:List Int):Option (Bool):=if 0≤a1_0 then (if a1_0<(l0.length:Int) then (if 0≤a2_0 then (if a2_0<(l0.length:Int) then (if ((rd_T58 l0 a1_0).f1)=((rd_T58 l0 a2_0).f1) then ((spec_Recency.f k l1_1).bind fun t257=>((spec_Recency.f k l2_1).bind fun t260=>((spec_l5Tags.f k t257 t260).bind fun t263=>(if t263=0 then (if a1_0=a2_0 then ((spec_l5Tags.f k l1_1 l2_1).bind fun t264=>(some (decide (t264<0)))) else (some (decide (a1_0<a2_0)))) else (some (decide (t263>0))))))) else (some (decide (((rd_T58 l0 a1_0).f1)>((rd_T58 l0 a2_0).f1))))) else (none)) else (none)) else (none)) else (none)
theorem spec_l5Before.mono:∀a0 a1 a2 a3 a4 k,LeO (spec_l5Before.f k a0 a1 a2 a3 a4) (spec_l5Before.f (k+1) a0 a1 a2 a3 a4):=by
 intro a0 a1 a2 a3 a4 k;unfold spec_l5Before.f
 repeat' with_reducible first|apply spec_Recency.mono|apply spec_l5Tags.mono|apply LeO.refl|apply LeO.none|refine LeO.ite ?_ ?_|refine LeO.bind ?_ (fun _=>?_)
def spec_l5Before.T5:Bool×List (List Nat×List Nat):=(true,[([],[]),([0],[0]),([1],[1]),([],[]),([3],[3]),([4,2],[4]),([2,5,5],[2,5]),([6,6,0,1,2,3,4,5,6],[6])])
def spec_l5Before.B5:List Nat:=[0,1,3,0,8,31,63,127]
theorem spec_l5Before.tab5:rtab .any (opsOf Tryz.f25 5)=spec_l5Before.T5:=by kernel_rfl
theorem spec_l5Before.bits5:waitsOk spec_l5Before.T5.2 spec_l5Before.B5=true:=by kernel_rfl
abbrev b507_0:Array Bool:=#[f_,f_,f_,f_,f_,f_,f_,f_]
abbrev b507_1:Array Bool:=#[t_,f_,f_,f_,f_,f_,f_,f_]
abbrev b507_2:Array Bool:=#[t_,f_,f_,t_,f_,f_,f_,f_]
abbrev b507_3:Array Bool:=#[t_,t_,f_,t_,f_,f_,f_,f_]
abbrev b507_4:Array Bool:=#[t_,t_,f_,t_,t_,f_,f_,f_]
abbrev b507_5:Array Bool:=#[t_,t_,t_,t_,t_,f_,f_,f_]
abbrev b507_6:Array Bool:=#[t_,t_,t_,t_,t_,t_,f_,f_]
abbrev b507_7:Array Bool:=#[t_,t_,t_,t_,t_,t_,t_,f_]
abbrev b507_8:Array Bool:=#[t_,t_,t_,t_,t_,t_,t_,t_]
set_option maxHeartbeats 8000000 in
set_option maxRecDepth 100000 in
theorem spec_l5Before.calls (k:Nat) (A0:Option Addr) (c0:Nat) (l0:List (S58)) (a1_0:Int) (A1_1:Option Addr) (c1_1:Nat) (l1_1:List Int) (a2_0:Int) (A2_1:Option Addr) (c2_1:Nat) (l2_1:List Int) (r:Bool) (w:World) (hr0:Kd.C k58 w A0 l0.length l0) (hc0:l0.length≤c0) (hr1_1:Kd.C (Kd.int .i64) w A1_1 l1_1.length l1_1) (hc1_1:l1_1.length≤c1_1) (hr2_1:Kd.C (Kd.int .i64) w A2_1 l2_1.length l2_1) (hc2_1:l2_1.length≤c2_1) (h:spec_l5Before.f k l0 a1_0 l1_1 a2_0 l2_1=some r):
  Calls Tryz.prog 25 #[.slice A0 l0.length c0,.agg #[.int .i64 a1_0,.slice A1_1 l1_1.length c1_1],.agg #[.int .i64 a2_0,.slice A2_1 l2_1.length c2_1]] w fun e w'=>e=.returned (.bool r)∧Below w.heap.size w w':=by
 have hu31:=Tryz.underlying31;have HR0:=a_ hr0;have HC0:=a_ hc0;clear hr0 hc0;have HR1_1:=a_ hr1_1;have HC1_1:=a_ hc1_1;clear hr1_1 hc1_1;have HR2_1:=a_ hr2_1;have HC2_1:=a_ hc2_1;clear hr2_1 hc2_1;have HB:=a_ (Below.refl w.heap.size w);have H:=h;unfold spec_l5Before.f at H
 clear h;by_cases c4:0≤a1_0
 case neg=>
  rw [if_neg c4] at H;cases H
 rw [if_pos c4] at H;have c4b0:=ct_ c4;clear c4;by_cases c5:a1_0<(l0.length:Int)
 case neg=>
  rw [if_neg c5] at H;cases H
 rw [if_pos c5] at H;have c5b0:=ct_ c5;clear c5;by_cases c6:0≤a2_0
 case neg=>
  rw [if_neg c6] at H;cases H
 rw [if_pos c6] at H;have c6b0:=ct_ c6;clear c6;by_cases c7:a2_0<(l0.length:Int)
 case neg=>
  rw [if_neg c7] at H;cases H
 rw [if_pos c7] at H;have c7b0:=ct_ c7;clear c7;by_cases c8:((rd_T58 l0 a1_0).f1)=((rd_T58 l0 a2_0).f1)
 ·rw [if_pos c8] at H;obtain ⟨c8b0,c8b1⟩:=bq_ c8;clear c8;obtain ⟨t257,A9,H⟩:=ob_ H;obtain ⟨t260,A10,H⟩:=ob_ H;obtain ⟨t263,A11,H⟩:=ob_ H;have HD:=a_ H;clear H;go_enter Tryz.func25,Tryz.ntmps25;try go_wp2_with (first|((with_reducible refine gate_dst (N:=4) rfl ?_);refine bh_ 4 #[.int .i64 a1_0,.slice A1_1 l1_1.length c1_1] 31 HB ?_;intro gb253 hg wq0 BK253 GE253 hb;replace HB:=ms_ HB hb;clear hb hg)|((with_reducible refine gate_dst (N:=5) rfl ?_);refine bh_ 5 #[.int .i64 a2_0,.slice A2_1 l2_1.length c2_1] 31 HB ?_;intro gb254 hg wq1 BK254 GE254 hb;obtain ⟨NB253_254,NB254_253⟩:=mn_ BK253 hg;replace BK253:=mk_ BK253 hb;replace HB:=ms_ HB hb;clear hb hg;have nNB253_254:=NB253_254.out;have nNB254_253:=NB254_253.out;replace hz253:=cz2 BK253;have p255:0≤(a1_0:Int):=md_;have q255:a1_0<(l0.length:Int):=md_;obtain ⟨ad255,A255_2,c255_2,A255_3,c255_3,A255_4,c255_4,e255,hx255_0,hx255_1,hx255_2,hx255_3,hx255_4,hl255_2,hi255_2,hl255_3,hi255_3,hl255_4,hi255_4⟩:=at_T58 HR0.out a1_0 p255 q255;cases e255;replace hx255_0:=mx_ HB hx255_0;replace hx255_1:=mx_ HB hx255_1;replace hx255_2:=mx_ HB hx255_2;replace hx255_3:=mx_ HB hx255_3;replace hx255_4:=mx_ HB hx255_4;have HR255_2:=a_ hi255_2;have HC255_2:=a_ hl255_2;clear hi255_2 hl255_2;have HR255_3:=a_ hi255_3;have HC255_3:=a_ hl255_3;clear hi255_3 hl255_3;have HR255_4:=a_ hi255_4;have HC255_4:=a_ hl255_4;clear hi255_4 hl255_4;replace p255:=eq_true p255;replace q255:=eq_true q255;replace hz254:=cz2 BK254;have p256:0≤(a2_0:Int):=md_;have q256:a2_0<(l0.length:Int):=md_;obtain ⟨ad256,A256_2,c256_2,A256_3,c256_3,A256_4,c256_4,e256,hx256_0,hx256_1,hx256_2,hx256_3,hx256_4,hl256_2,hi256_2,hl256_3,hi256_3,hl256_4,hi256_4⟩:=at_T58 HR0.out a2_0 p256 q256;obtain rfl:ad255=ad256:=(by injection e256);replace hx256_0:=mx_ HB hx256_0;replace hx256_1:=mx_ HB hx256_1;replace hx256_2:=mx_ HB hx256_2;replace hx256_3:=mx_ HB hx256_3;replace hx256_4:=mx_ HB hx256_4;have HR256_2:=a_ hi256_2;have HC256_2:=a_ hl256_2;clear hi256_2 hl256_2;have HR256_3:=a_ hi256_3;have HC256_3:=a_ hl256_3;clear hi256_3 hl256_3;have HR256_4:=a_ hi256_4;have HC256_4:=a_ hl256_4;clear hi256_4 hl256_4;replace p256:=eq_true p256;replace q256:=eq_true q256))
  replace BK253:=a_ (blk_drew BK253.out);replace BK254:=a_ (blk_drew BK254.out);replace HB:=a_ (below_drew1 HB.out);refine start_ (n:=8) (S:=fun w'=>w'.cell? ⟨gb253,0,none⟩=some (.int .i64 a1_0)∧w'.cell? ⟨gb253,1,none⟩=some (.slice A1_1 l1_1.length c1_1)∧w'.cell? ⟨gb254,0,none⟩=some (.int .i64 a2_0)∧w'.cell? ⟨gb254,1,none⟩=some (.slice A2_1 l2_1.length c2_1)) (ds:=[]) b507_0 (by kernel_rfl) rfl rfl ⟨bk_ BK253 0,bk_ BK253 1,bk_ BK254 0,bk_ BK254 1⟩ (fun hHeld=>?_);refine with_tabW spec_l5Before.tab5 spec_l5Before.bits5 (fun HT_ HW_=>?_);generalize wq1.drew=wq2 at BK253 BK254 HB hHeld ⊢;refine pu_ 0 28 b507_1 (any_of HT_.out (by kernel_rfl)) ?_;refine pu_ 3 31 b507_2 (any_of HT_.out (by kernel_rfl)) ?_;refine tk_ 1 29 b507_3 (take_ofW HT_.out HW_.out (by kernel_rfl)) hHeld ?_;refine tk_ 4 32 b507_4 (take_ofW HT_.out HW_.out (by kernel_rfl)) hHeld ?_;refine one_ (i:=2) (N:=some 30) b507_5 rfl rfl (one_of HT_.out (by kernel_rfl)) (by decide) (fun K hK=>?_);refine goes_ Tryz.func51 (by kernel_rfl) rfl #[.slice A1_1 l1_1.length c1_1] (by rfl) rfl rfl mw_ ?_;with_reducible refine (spec_Recency.calls k _ _ l1_1 t257 _ ?side1 ?side2 A9.out).mono ?_
  (case side1=>exact mt_ HR1_1 HB)
  (case side2=>exact HC1_1.out)
  rintro e wq3 ⟨v258,rfl,ho0,hb⟩;refine ⟨_,rfl,?_⟩;have HO259:=a_ (Kd.R_lower ho0 (below_size (mb_ HB)));replace BK253:=mk_ BK253 hb;replace BK254:=mk_ BK254 hb;replace HB:=ms_ HB hb;(try clear hb);(try clear hb2);(try clear hk);(try clear hi);(try clear ho0);refine hK.out _ _ ⟨bk_ BK253 0,bk_ BK253 1,bk_ BK254 0,bk_ BK254 1⟩ (fun hHeld=>?_);clear hK K;refine nm_ 30 ?_;refine one_ (i:=5) (N:=some 33) b507_6 rfl rfl (one_of HT_.out (by kernel_rfl)) (by decide) (fun K hK=>?_);refine goes_ Tryz.func51 (by kernel_rfl) rfl #[.slice A2_1 l2_1.length c2_1] (by rfl) rfl rfl mw_ ?_;with_reducible refine (spec_Recency.calls k _ _ l2_1 t260 _ ?side1 ?side2 A10.out).mono ?_
  (case side1=>exact mt_ HR2_1 HB)
  (case side2=>exact HC2_1.out)
  rintro e wq4 ⟨v261,rfl,ho0,hb⟩;refine ⟨_,rfl,?_⟩;have HO262:=a_ (Kd.R_lower (Kd.R_new' ho0 (Kd.R_lt (mo_ HO259.out))) (below_size (mb_ HB)));replace HO259:=a_ (Kd.R_elder' (mo_ HO259.out) (Kd.R_base ho0) hb);replace BK253:=mk_ BK253 hb;replace BK254:=mk_ BK254 hb;replace HB:=ms_ HB hb;(try clear hb);(try clear hb2);(try clear hk);(try clear hi);(try clear ho0);obtain ⟨Aoq5,coq6,eoq7⟩:=Kd.R_slice HO259.out;(first|subst eoq7|(injection eoq7 with f1_ f2_ f3_;have f4_:=f1_.symm;have f5_:=f3_.symm;clear f1_ f2_ f3_;subst f4_;subst f5_));obtain ⟨Aoq8,coq9,eoq10⟩:=Kd.R_slice HO262.out;(first|subst eoq10|(injection eoq10 with f1_ f2_ f3_;have f4_:=f1_.symm;have f5_:=f3_.symm;clear f1_ f2_ f3_;subst f4_;subst f5_));refine hK.out _ _ ⟨bk_ BK253 0,bk_ BK253 1,bk_ BK254 0,bk_ BK254 1⟩ (fun hHeld=>?_);clear hK K;refine nm_ 33 ?_;refine one_ (i:=6) (N:=some 34) b507_7 rfl rfl (one_of HT_.out (by kernel_rfl)) (by decide) (fun K hK=>?_);refine goes_ Tryz.func50 (by kernel_rfl) rfl #[.slice Aoq5 t257.length coq6,.slice Aoq8 t260.length coq9] (by rfl) rfl rfl mw_ ?_;with_reducible refine (spec_l5Tags.calls k _ _ t257 _ _ t260 t263 _ ?side1 ?side2 ?side3 ?side4 A11.out).mono ?_
  (case side1=>repeat (first|exact (Kd.R_reads' HO259.out).2.2|(with_reducible refine Kd.C_alloc ?_ _)|(with_reducible refine Kd.C_drewN ?_ _)|(with_reducible refine Kd.C_drew ?_)))
  (case side2=>exact (Kd.R_reads' HO259.out).2.1)
  (case side3=>repeat (first|exact (Kd.R_reads' HO262.out).2.2|(with_reducible refine Kd.C_alloc ?_ _)|(with_reducible refine Kd.C_drewN ?_ _)|(with_reducible refine Kd.C_drew ?_)))
  (case side4=>exact (Kd.R_reads' HO262.out).2.1)
  rintro e w' ⟨rfl,⟨nd,rfl⟩⟩;refine ⟨_,rfl,?_⟩;refine hK.out _ _ ⟨bk_ BK253 0,bk_ BK253 1,bk_ BK254 0,bk_ BK254 1⟩ (fun hHeld=>?_);clear hK K;refine nm_ 34 ?_;refine pu_ 7 9 b507_8 (any_of HT_.out (by kernel_rfl)) ?_;have H:=HD.out;clear HD;by_cases c12:t263=0
  ·rw [if_pos c12] at H;obtain ⟨c12b0,c12b1⟩:=bq_ c12;clear c12;by_cases c13:a1_0=a2_0
   ·rw [if_pos c13] at H;obtain ⟨c13b0,c13b1⟩:=bq_ c13;clear c13;obtain ⟨t264,A14,H⟩:=ob_ H;obtain rfl:=oi_ H;(try simp only [c12b0,c12b1,c13b0,c13b1]);refine done_ (done_of HT_.out (by kernel_rfl)) ?_;replace hz253:=cz2 BK253;replace hz254:=cz2 BK254;try go_wp2_with (first|((with_reducible refine gate_callee (f:=50) rfl ?_);refine goesL_ (some 53) rfl rfl Tryz.func50 (by kernel_rfl) rfl #[.slice A1_1 l1_1.length c1_1,.slice A2_1 l2_1.length c2_1] rfl mw_ ?_;(with_reducible refine (spec_l5Tags.calls k _ _ l1_1 _ _ l2_1 t264 _ ?side1 HC1_1.out ?side3 HC2_1.out A14.out).mono ?_);(case side1=>repeat (first|exact (Kd.C_below HR1_1.out (mb_ HB))|(with_reducible refine Kd.C_alloc ?_ _)|(with_reducible refine Kd.C_drewN ?_ _)|(with_reducible refine Kd.C_drew ?_)));(case side3=>repeat (first|exact (Kd.C_below HR2_1.out (mb_ HB))|(with_reducible refine Kd.C_alloc ?_ _)|(with_reducible refine Kd.C_drewN ?_ _)|(with_reducible refine Kd.C_drew ?_)));rintro e w' ⟨rfl,⟨nd,rfl⟩⟩;refine ⟨_,rfl,?_⟩))
    go_ret;exact ⟨me_,mb_ HB⟩
   ·rw [if_neg c13] at H;obtain ⟨c13b0,c13b1⟩:=bn_ c13;obtain rfl:=oi_ H;(try simp only [c12b0,c12b1,c13b0,c13b1]);refine done_ (done_of HT_.out (by kernel_rfl)) ?_;replace hz253:=cz2 BK253;replace hz254:=cz2 BK254;try go_wp2
    go_ret;exact ⟨me_,mb_ HB⟩
  ·rw [if_neg c12] at H;obtain ⟨c12b0,c12b1⟩:=bn_ c12;obtain rfl:=oi_ H;(try simp only [c12b0,c12b1]);refine done_ (done_of HT_.out (by kernel_rfl)) ?_;try go_wp2
   go_ret;exact ⟨me_,mb_ HB⟩
 ·rw [if_neg c8] at H;obtain ⟨c8b0,c8b1⟩:=bn_ c8;obtain rfl:=oi_ H;go_enter Tryz.func25,Tryz.ntmps25;go_wp2_with (first|((with_reducible refine gate_dst (N:=4) rfl ?_);refine bh_ 4 #[.int .i64 a1_0,.slice A1_1 l1_1.length c1_1] 31 HB ?_;intro gb253 hg wx BK253 GE253 hb;replace HB:=ms_ HB hb;clear hb hg)|((with_reducible refine gate_dst (N:=5) rfl ?_);refine bh_ 5 #[.int .i64 a2_0,.slice A2_1 l2_1.length c2_1] 31 HB ?_;intro gb254 hg wx BK254 GE254 hb;obtain ⟨NB253_254,NB254_253⟩:=mn_ BK253 hg;replace BK253:=mk_ BK253 hb;replace HB:=ms_ HB hb;clear hb hg;have nNB253_254:=NB253_254.out;have nNB254_253:=NB254_253.out;replace hz253:=cz2 BK253;have p255:0≤(a1_0:Int):=md_;have q255:a1_0<(l0.length:Int):=md_;obtain ⟨ad255,A255_2,c255_2,A255_3,c255_3,A255_4,c255_4,e255,hx255_0,hx255_1,hx255_2,hx255_3,hx255_4,hl255_2,hi255_2,hl255_3,hi255_3,hl255_4,hi255_4⟩:=at_T58 HR0.out a1_0 p255 q255;cases e255;replace hx255_0:=mx_ HB hx255_0;replace hx255_1:=mx_ HB hx255_1;replace hx255_2:=mx_ HB hx255_2;replace hx255_3:=mx_ HB hx255_3;replace hx255_4:=mx_ HB hx255_4;have HR255_2:=a_ hi255_2;have HC255_2:=a_ hl255_2;clear hi255_2 hl255_2;have HR255_3:=a_ hi255_3;have HC255_3:=a_ hl255_3;clear hi255_3 hl255_3;have HR255_4:=a_ hi255_4;have HC255_4:=a_ hl255_4;clear hi255_4 hl255_4;replace p255:=eq_true p255;replace q255:=eq_true q255;replace hz254:=cz2 BK254;have p256:0≤(a2_0:Int):=md_;have q256:a2_0<(l0.length:Int):=md_;obtain ⟨ad256,A256_2,c256_2,A256_3,c256_3,A256_4,c256_4,e256,hx256_0,hx256_1,hx256_2,hx256_3,hx256_4,hl256_2,hi256_2,hl256_3,hi256_3,hl256_4,hi256_4⟩:=at_T58 HR0.out a2_0 p256 q256;obtain rfl:ad255=ad256:=(by injection e256);replace hx256_0:=mx_ HB hx256_0;replace hx256_1:=mx_ HB hx256_1;replace hx256_2:=mx_ HB hx256_2;replace hx256_3:=mx_ HB hx256_3;replace hx256_4:=mx_ HB hx256_4;have HR256_2:=a_ hi256_2;have HC256_2:=a_ hl256_2;clear hi256_2 hl256_2;have HR256_3:=a_ hi256_3;have HC256_3:=a_ hl256_3;clear hi256_3 hl256_3;have HR256_4:=a_ hi256_4;have HC256_4:=a_ hl256_4;clear hi256_4 hl256_4;replace p256:=eq_true p256;replace q256:=eq_true q256));go_ret;exact ⟨me_,mb_ HB⟩
def spec_Before.f (k:Nat) (l0:List (S58)) (a1_0:Int) (l1_1:List Int) (a2_0:Int) (l2_1:List Int):Option (Bool):=(spec_l5There.f l0 a1_0 l1_1).bind fun t267=>(if t267=true then ((spec_l5There.f l0 a2_0 l2_1).bind fun t268=>(if t268=true then ((spec_l2Checked.f k l0).bind fun t269=>(if t269=true then ((spec_l5Before.f k l0 a1_0 l1_1 a2_0 l2_1).bind fun t270=>(some t270)) else (some false))) else (some false))) else (some false))
theorem spec_Before.mono:∀a0 a1 a2 a3 a4 k,LeO (spec_Before.f k a0 a1 a2 a3 a4) (spec_Before.f (k+1) a0 a1 a2 a3 a4):=by
 intro a0 a1 a2 a3 a4 k;unfold spec_Before.f
 repeat' with_reducible first|apply spec_l2Checked.mono|apply spec_l5Before.mono|apply LeO.refl|apply LeO.none|refine LeO.ite ?_ ?_|refine LeO.bind ?_ (fun _=>?_)
def laws_toValue.f (a0_0:Int) (a0_1:Int) (a0_2:ByteArray):Option (Int×Int×ByteArray):=some (a0_0,a0_1,a0_2)
set_option maxHeartbeats 8000000 in
set_option maxRecDepth 100000 in
theorem laws_toValue.calls (a0_0:Int) (a0_1:Int) (a0_2:ByteArray) (r1:Int) (r2:Int) (r3:ByteArray) (w:World) (h:laws_toValue.f a0_0 a0_1 a0_2=some (r1,r2,r3)):
  Calls Tryz.prog 94 #[.agg #[.int .i64 a0_0,.int .i64 a0_1,.string a0_2]] w fun e w'=>e=.returned (.agg #[.int .i64 r1,.int .i64 r2,.string r3])∧Below w.heap.size w w':=by
 have hu114:=Tryz.underlying114;have hu104:=Tryz.underlying104;have HB:=a_ (Below.refl w.heap.size w);have H:(some (a0_0,a0_1,a0_2))=some (r1,r2,r3):=h
 clear h;simp only [Option.some.injEq,Prod.mk.injEq] at H;obtain ⟨rfl,rfl,rfl⟩:=H;go_enter Tryz.func94,Tryz.ntmps94;go_wp2_with (first|((with_reducible refine gate_dst (N:=1) rfl ?_);refine bh_ 1 #[.int .i64 a0_0,.int .i64 a0_1,.string a0_2] 114 HB ?_;intro gb271 hg wx BK271 GE271 hb;replace HB:=ms_ HB hb;clear hb hg)|((with_reducible refine gate_dst (N:=2) rfl ?_);refine bh_ 2 #[.int .i64 0,.int .i64 0,.string (⟨#[]⟩:ByteArray)] 104 HB ?_;intro gb272 hg wx BK272 GE272 hb;obtain ⟨NB271_272,NB272_271⟩:=mn_ BK271 hg;replace BK271:=mk_ BK271 hb;replace HB:=ms_ HB hb;clear hb hg)|((with_reducible refine gate_dst (N:=3) rfl ?_);refine bh_ 3 #[.int .i64 0,.int .i64 0,.string (⟨#[]⟩:ByteArray)] 104 HB ?_;intro gb273 hg wx BK273 GE273 hb;obtain ⟨NB271_273,NB273_271⟩:=mn_ BK271 hg;obtain ⟨NB272_273,NB273_272⟩:=mn_ BK272 hg;replace BK271:=mk_ BK271 hb;replace BK272:=mk_ BK272 hb;replace HB:=ms_ HB hb;clear hb hg;have nNB271_272:=NB271_272.out;have nNB272_271:=NB272_271.out;have nNB271_273:=NB271_273.out;have nNB273_271:=NB273_271.out;replace hz271:=cz3 BK271;have nNB273_272:=NB273_272.out;have nNB272_273:=NB272_273.out;replace hz273:=cz3 BK273;replace hz272:=cz3 BK272));refine bodyPost_ret (results_cell_row rfl _ _ gb272 104 #[.int .i64 a0_0,.int .i64 a0_1,.string a0_2] (0,0) _ rfl (mp_ BK272) Tryz.underlying104 rfl (by kernel_rfl)) rfl ?_;exact ⟨me_,mb_ HB⟩
end Go.Proofs.YtejjlkbbnhpbdaaGreat.P
namespace Go.Proofs.YtejjlkbbnhpbdaaGreat.P
open Go.Proofs.YtejjlkbbnhpbdaaGreatX
open Go.RowKit Go.Proofs.YtejjlkbbnhpbdaaGreatW.PrintWords Go.Proofs.YtejjlkbbnhpbdaaGreatW.PrintLast Go.Proofs.YtejjlkbbnhpbdaaGreatW.PrintMore
attribute [local go_sem] max2_int min2_int max_two min_two max_three min_three max_four min_four
set_option linter.unusedVariables false
set_option linter.unusedSimpArgs false
def laws_toTerm.f (a0_0:Int) (a0_1:Int) (a0_2:ByteArray) (a0_3:Int) (a0_4:Int) (a0_5:ByteArray):Option (Int×Int×ByteArray×Int×Int×ByteArray):=(laws_toValue.f a0_3 a0_4 a0_5).bind fun bt277=>(some (a0_0,a0_1,a0_2,bt277.1,bt277.2.1,bt277.2.2))
set_option maxHeartbeats 8000000 in
set_option maxRecDepth 100000 in
theorem laws_toTerm.calls (a0_0:Int) (a0_1:Int) (a0_2:ByteArray) (a0_3:Int) (a0_4:Int) (a0_5:ByteArray) (r1:Int) (r2:Int) (r3:ByteArray) (r4:Int) (r5:Int) (r6:ByteArray) (w:World) (h:laws_toTerm.f a0_0 a0_1 a0_2 a0_3 a0_4 a0_5=some (r1,r2,r3,r4,r5,r6)):
  Calls Tryz.prog 111 #[.agg #[.int .i64 a0_0,.int .i64 a0_1,.string a0_2,.int .i64 a0_3,.int .i64 a0_4,.string a0_5]] w fun e w'=>e=.returned (.agg #[.int .i64 r1,.int .i64 r2,.string r3,.int .i64 r4,.int .i64 r5,.string r6])∧Below w.heap.size w w':=by
 have hu160:=Tryz.underlying160;have hu134:=Tryz.underlying134;have hu114:=Tryz.underlying114;have hu104:=Tryz.underlying104;have HB:=a_ (Below.refl w.heap.size w);have H:=h;unfold laws_toTerm.f at H
 clear h;obtain ⟨⟨t277,t278,t279⟩,A2,H⟩:=ob_ H;simp only [Option.some.injEq,Prod.mk.injEq] at H;obtain ⟨rfl,rfl,rfl,rfl,rfl,rfl⟩:=H;go_enter Tryz.func111,Tryz.ntmps111;go_wp2_with (first|((with_reducible refine gate_dst (N:=1) rfl ?_);refine bh_ 1 #[.int .i64 a0_0,.int .i64 a0_1,.string a0_2,.int .i64 a0_3,.int .i64 a0_4,.string a0_5] 160 HB ?_;intro gb274 hg wx BK274 GE274 hb;replace HB:=ms_ HB hb;clear hb hg)|((with_reducible refine gate_dst (N:=2) rfl ?_);refine bh_ 2 #[.int .i64 0,.int .i64 0,.string (⟨#[]⟩:ByteArray),.int .i64 0,.int .i64 0,.string (⟨#[]⟩:ByteArray)] 134 HB ?_;intro gb275 hg wx BK275 GE275 hb;obtain ⟨NB274_275,NB275_274⟩:=mn_ BK274 hg;replace BK274:=mk_ BK274 hb;replace HB:=ms_ HB hb;clear hb hg)|((with_reducible refine gate_dst (N:=3) rfl ?_);refine bh_ 3 #[.int .i64 0,.int .i64 0,.string (⟨#[]⟩:ByteArray),.int .i64 0,.int .i64 0,.string (⟨#[]⟩:ByteArray)] 134 HB ?_;intro gb276 hg wx BK276 GE276 hb;obtain ⟨NB274_276,NB276_274⟩:=mn_ BK274 hg;obtain ⟨NB275_276,NB276_275⟩:=mn_ BK275 hg;replace BK274:=mk_ BK274 hb;replace BK275:=mk_ BK275 hb;replace HB:=ms_ HB hb;clear hb hg;have nNB274_275:=NB274_275.out;have nNB275_274:=NB275_274.out;have nNB274_276:=NB274_276.out;have nNB276_274:=NB276_274.out;replace hz274:=cz6 BK274;have nNB276_275:=NB276_275.out;have nNB275_276:=NB275_276.out;replace hz276:=cz6 BK276)|((with_reducible refine gate_callee (f:=94) rfl ?_);refine goesL_ (some 15) rfl rfl Tryz.func94 (by kernel_rfl) rfl #[.agg #[.int .i64 a0_3,.int .i64 a0_4,.string a0_5]] rfl mw_ ?_;(with_reducible refine (laws_toValue.calls a0_3 a0_4 a0_5 t277 t278 t279 _ A2.out).mono ?_);rintro e wx ⟨rfl,hb⟩;refine ⟨_,rfl,?_⟩;replace BK274:=mk_ BK274 hb;replace BK275:=mk_ BK275 hb;replace BK276:=a_ (blk_below (g:=gb276) (o:=.cells #[.int .i64 a0_0,.int .i64 a0_1,.string a0_2,.int .i64 0,.int .i64 0,.string (⟨#[]⟩:ByteArray)] 134 (0,0)) (mp_ BK276) hb);replace HB:=ms_ HB hb;(try clear hb);replace hz276:=cz6 BK276;replace hz275:=cz6 BK275));refine bodyPost_ret (results_cell_row rfl _ _ gb275 134 #[.int .i64 a0_0,.int .i64 a0_1,.string a0_2,.int .i64 t277,.int .i64 t278,.string t279] (0,0) _ rfl (mp_ BK275) Tryz.underlying134 rfl (by kernel_rfl)) rfl ?_;exact ⟨me_,mb_ HB⟩
def laws_toTermS.l0:Nat→List (S160)→List (S134)→Int→Option ((List (S134)))
 | 0,_,_,_=>none
 | k+1,x0,x3,x4=>if x4<(x0.length:Int) then (if 0≤x4 then ((laws_toTerm.f ((rd_T160 x0 x4).f0) ((rd_T160 x0 x4).f1) ((rd_T160 x0 x4).f2) ((rd_T160 x0 x4).f3.f0) ((rd_T160 x0 x4).f3.f1) ((rd_T160 x0 x4).f3.f2)).bind fun bt284=>(if x4<(x3.length:Int) then (laws_toTermS.l0 k x0 (x3.set (x4:Int).toNat (⟨bt284.1,bt284.2.1,bt284.2.2.1,(⟨bt284.2.2.2.1,bt284.2.2.2.2.1,bt284.2.2.2.2.2⟩:S104)⟩:S134)) (wrap64 (x4+1))) else (none))) else (none)) else (some x3)
def laws_toTermS.f (k:Nat) (l0:List (S160)):Option ((List (S134))):=if 0≤(l0.length:Int) then (if ((l0.length:Int):Int).toNat≤4398046511104 then (laws_toTermS.l0 k l0 (List.replicate ((l0.length:Int):Int).toNat z134) 0) else (none)) else (none)
theorem laws_toTermS.mono_l:∀k,(∀y0 y1 y2,LeO (laws_toTermS.l0 k y0 y1 y2) (laws_toTermS.l0 (k+1) y0 y1 y2))
 | 0=>fun _ _ _ r h=>by simp [laws_toTermS.l0] at h
 | k+1=>by
  have ih0:=laws_toTermS.mono_l k
  ·intro y0 y1 y2;unfold laws_toTermS.l0
   repeat' with_reducible first|apply ih0|apply LeO.refl|apply LeO.none|refine LeO.ite ?_ ?_|refine LeO.bind ?_ (fun _=>?_)
theorem laws_toTermS.mono:∀a0 k,LeO (laws_toTermS.f k a0) (laws_toTermS.f (k+1) a0):=by
 intro a0 k;have ih0:=laws_toTermS.mono_l k;unfold laws_toTermS.f
 repeat' with_reducible first|apply ih0|apply LeO.refl|apply LeO.none|refine LeO.ite ?_ ?_|refine LeO.bind ?_ (fun _=>?_)
set_option maxHeartbeats 8000000 in
set_option maxRecDepth 100000 in
theorem laws_toTermS.calls (k:Nat) (A0:Option Addr) (c0:Nat) (l0:List (S160)) (r:List (S134)) (w:World) (hr0:Kd.C k160 w A0 l0.length l0) (hc0:l0.length≤c0) (h:laws_toTermS.f k l0=some r):
  Calls Tryz.prog 93 #[.slice A0 l0.length c0] w fun e w'=>∃v0_:Value,e=.returned (v0_)∧Kd.R k134 134 w' w.heap.size (fun _=>True) v0_ r∧Below w.heap.size w w':=by
 have hu160:=Tryz.underlying160;have hu134:=Tryz.underlying134;have HR0:=a_ hr0;have HC0:=a_ hc0;clear hr0 hc0;have HB:=a_ (Below.refl w.heap.size w);have H:=h;unfold laws_toTermS.f at H
 clear h;by_cases c2:0≤(l0.length:Int)
 case neg=>
  rw [if_neg c2] at H;cases H
 rw [if_pos c2] at H;have c2b0:=eq_true c2;have c2b1:=ct_ c2;clear c2;by_cases c3:((l0.length:Int):Int).toNat≤4398046511104
 case neg=>
  rw [if_neg c3] at H;cases H
 rw [if_pos c3] at H;have c3b0:=eq_true c3;have c3b1:=ct_ c3;clear c3;obtain ⟨y280,hy280⟩:∃y_:List (S134),y_=(List.replicate ((l0.length:Int):Int).toNat z134):=⟨_,rfl⟩;rw [←hy280] at H;(try rw [Option.bind_some] at H);have Ny280:=a_ hy280;clear hy280;have H':=a_ H;clear H;go_enter Tryz.func93,Tryz.ntmps93;go_wp2_with (first|((with_reducible refine gate_dst (N:=7) rfl ?_);refine Kd.R_make k134 _ 134 rfl (N:=7) rfl 99 _ _ rfl (l0.length:Int) rfl rfl Tryz.underlying99 (.agg #[(.int .i64 0),(.int .i64 0),(.string ⟨#[]⟩),(.int .i64 0),(.int .i64 0),(.string ⟨#[]⟩)]) 64 info134 rfl (by decide) (by omega) z134 (ok:=fun _=>True) (okp:=fun _=>True) (k134_mkM _ _ _ z134 ) (fun _ hk=>hk) trivial (md_) (Nat.le_trans (Nat.mul_le_mul_right _ (md_:(l0.length:Int).toNat≤4398046511104)) (by omega)) (Below.refl _ _) (Nat.le_refl _) ?_;intro v281 wx ho5 hb hg_ hnew_;clear hg_ hnew_;(first|rw [←Ny280.out] at ho5|(simp only [Int.reduceToNat] at ho5;rw [←Ny280.out] at ho5));have HO282:=a_ (Kd.R_lower ho5 (below_size (mb_ HB)));replace HB:=ms_ HB hb;clear hb ho5));go_loopg [4] k (fun kq v4 w'=>∃(x3_1:List (S134)) (x4_1:Int),v4=.int .i64 x4_1∧Aside0 (laws_toTermS.l0 kq l0 x3_1 x4_1=some r)∧Aside0 (kq≤k)∧Aside0 (Kd.R k134 134 w' w.heap.size (fun _=>True) v281 x3_1)∧Aside0 (Below w.heap.size w w'))
 case atStart=>exact ⟨(y280),(0),mq_,H',⟨Nat.le_refl _⟩,⟨mo_ HO282.out⟩,⟨mb_ HB⟩⟩
 clear H';(try clear c2b0);(try clear c2b1);(try clear c3b0);(try clear c3b1);obtain ⟨x3_1,x4_1,rfl,HA,HK1,HO_3,HB⟩:=hrel;obtain _|k1:=gk
 ·exact absurd HA.out (by simp [laws_toTermS.l0])
 have H:=HA.out;clear HA;simp only [laws_toTermS.l0] at H;by_cases c6:x4_1<(l0.length:Int)
 ·rw [if_pos c6] at H;have c6b0:=ct_ c6;clear c6;by_cases c7:0≤x4_1
  case neg=>
   rw [if_neg c7] at H;cases H
  rw [if_pos c7] at H;have c7b0:=ct_ c7;clear c7;obtain ⟨⟨t284,t285,t286,t287,t288,t289⟩,A8,H⟩:=ob_ H;by_cases c9:x4_1<(x3_1.length:Int)
  case neg=>
   rw [if_neg c9] at H;cases H
  rw [if_pos c9] at H;have c9b0:=ct_ c9;clear c9;obtain ⟨y290,hy290⟩:∃y_:List (S134),y_=(x3_1.set (x4_1:Int).toNat (⟨t284,t285,t286,(⟨t287,t288,t289⟩:S104)⟩:S134)):=⟨_,rfl⟩;rw [←hy290] at H;(try rw [Option.bind_some] at H);have Ny290:=a_ hy290;clear hy290;have H':=a_ H;clear H;have p283:0≤(x4_1:Int):=md_
  have q283:x4_1<(l0.length:Int):=md_
  obtain ⟨ad283,e283,hx283_0,hx283_1,hx283_2,hx283_3,hx283_4,hx283_5⟩:=at_T160 HR0.out x4_1 p283 q283;cases e283;replace hx283_0:=mx_ HB hx283_0;replace hx283_1:=mx_ HB hx283_1;replace hx283_2:=mx_ HB hx283_2;replace hx283_3:=mx_ HB hx283_3;replace hx283_4:=mx_ HB hx283_4;replace hx283_5:=mx_ HB hx283_5;replace p283:=eq_true p283;replace q283:=eq_true q283;go_wp2_with (first|((with_reducible refine gate_callee (f:=111) rfl ?_);refine goesL_ (some 20) rfl rfl Tryz.func111 (by kernel_rfl) rfl #[.agg #[.int .i64 ((rd_T160 l0 x4_1).f0),.int .i64 ((rd_T160 l0 x4_1).f1),.string ((rd_T160 l0 x4_1).f2),.int .i64 ((rd_T160 l0 x4_1).f3.f0),.int .i64 ((rd_T160 l0 x4_1).f3.f1),.string ((rd_T160 l0 x4_1).f3.f2)]] rfl mw_ ?_;(with_reducible refine (laws_toTerm.calls ((rd_T160 l0 x4_1).f0) ((rd_T160 l0 x4_1).f1) ((rd_T160 l0 x4_1).f2) ((rd_T160 l0 x4_1).f3.f0) ((rd_T160 l0 x4_1).f3.f1) ((rd_T160 l0 x4_1).f3.f2) t284 t285 t286 t287 t288 t289 _ A8.out).mono ?_);rintro e w11 ⟨rfl,hb⟩;refine ⟨_,rfl,?_⟩;replace HO_3:=ro_ HO_3 hb;replace HB:=ms_ HB hb;(try clear hb);have p10:0≤(x4_1:Int):=md_;have q10:(x4_1:Int)<((x3_1.length:Int):Int):=md_;obtain ⟨go10,co10,eo10,gb10,gl10,cl10,HG10⟩:=Kd.R_form HO_3.out (by omega);(first|cases eo10|(injection eo10 with ea_ en_ ec_;(first|subst ea_|(injection ea_ with ea_;subst ea_));subst ec_;clear en_));have GB10:=a_ gb10;have GG10:=a_ HG10;clear gb10 gl10 HG10;obtain ⟨ce10,hcl10,hM10,hcc10,hfr10⟩:=Kd.R_elem HO_3.out z134 (x4_1:Int) p10 q10;obtain rfl:=k134_openM hM10;have hx10_0:w11.cell? ⟨go10,(x4_1:Int).toNat*6,none⟩=some (.int .i64 ((rd_T134 x3_1 x4_1).f0)):=hcc10 0 _ rfl;have hx10_1:w11.cell? ⟨go10,(x4_1:Int).toNat*6+1,none⟩=some (.int .i64 ((rd_T134 x3_1 x4_1).f1)):=hcc10 1 _ rfl;have hx10_2:w11.cell? ⟨go10,(x4_1:Int).toNat*6+2,none⟩=some (.string ((rd_T134 x3_1 x4_1).f2)):=hcc10 2 _ rfl;have hx10_3:w11.cell? ⟨go10,(x4_1:Int).toNat*6+3,none⟩=some (.int .i64 ((rd_T134 x3_1 x4_1).f3.f0)):=hcc10 3 _ rfl;have hx10_4:w11.cell? ⟨go10,(x4_1:Int).toNat*6+4,none⟩=some (.int .i64 ((rd_T134 x3_1 x4_1).f3.f1)):=hcc10 4 _ rfl;have hx10_5:w11.cell? ⟨go10,(x4_1:Int).toNat*6+5,none⟩=some (.string ((rd_T134 x3_1 x4_1).f3.f2)):=hcc10 5 _ rfl;have hf10_0:w11.frozen? ⟨go10,(x4_1:Int).toNat*6,none⟩=false:=hfr10 0;have hf10_1:w11.frozen? ⟨go10,(x4_1:Int).toNat*6+1,none⟩=false:=hfr10 1;have hf10_2:w11.frozen? ⟨go10,(x4_1:Int).toNat*6+2,none⟩=false:=hfr10 2;have hf10_3:w11.frozen? ⟨go10,(x4_1:Int).toNat*6+3,none⟩=false:=hfr10 3;have hf10_4:w11.frozen? ⟨go10,(x4_1:Int).toNat*6+4,none⟩=false:=hfr10 4;have hf10_5:w11.frozen? ⟨go10,(x4_1:Int).toNat*6+5,none⟩=false:=hfr10 5;clear hcl10 hcc10 hfr10;(try clear hM10);replace p10:=eq_true p10;replace q10:=eq_true q10;have HX12:=a_ (show Kd.R k134 134 w11 w.heap.size (fun _=>True) (.slice (some ⟨go10,0,none⟩) x3_1.length co10) x3_1 from (mo_ HO_3.out));obtain ⟨ce12,hcl12,hM12,hcc12,hfr12⟩:=Kd.R_elem HX12.out z134 (x4_1:Int) (md_) (by have h_:(x4_1:Int)<((x3_1.length:Int):Int):=md_;first|exact h_|(have e_:=(Kd.R_reads' HO_3.out).1;omega)|simpa using h_);obtain rfl:=k134_openM hM12;have HP12:=Kd.R_seg HX12.out (x4_1:Int) (md_) (by have h_:(x4_1:Int)<((x3_1.length:Int):Int):=md_;first|exact h_|(have e_:=(Kd.R_reads' HO_3.out).1;omega)|simpa using h_) (seg:=[.int .i64 t284,.int .i64 t285,.string t286,.int .i64 t287,.int .i64 t288,.string t289]) (j:=0) hcl12 hcc12 (show 6≤6 from by decide) (x':=(⟨t284,t285,t286,(⟨t287,t288,t289⟩:S104)⟩:S134)) (k134_mkM _ _ _ (⟨t284,t285,t286,(⟨t287,t288,t289⟩:S104)⟩:S134) ) (fun _ hk=>hk);have hx12_0:=hcc12 0 _ rfl;(try simp only [show (k134).sz=6 from rfl,Nat.mul_one,Nat.add_zero] at hx12_0);have hf12_0:=hfr12 0;(try simp only [show (k134).sz=6 from rfl,Nat.mul_one,Nat.add_zero] at hf12_0);have hx12_1:=hcc12 1 _ rfl;(try simp only [show (k134).sz=6 from rfl,Nat.mul_one,Nat.add_zero] at hx12_1);have hf12_1:=hfr12 1;(try simp only [show (k134).sz=6 from rfl,Nat.mul_one,Nat.add_zero] at hf12_1);have hx12_2:=hcc12 2 _ rfl;(try simp only [show (k134).sz=6 from rfl,Nat.mul_one,Nat.add_zero] at hx12_2);have hf12_2:=hfr12 2;(try simp only [show (k134).sz=6 from rfl,Nat.mul_one,Nat.add_zero] at hf12_2);have hx12_3:=hcc12 3 _ rfl;(try simp only [show (k134).sz=6 from rfl,Nat.mul_one,Nat.add_zero] at hx12_3);have hf12_3:=hfr12 3;(try simp only [show (k134).sz=6 from rfl,Nat.mul_one,Nat.add_zero] at hf12_3);have hx12_4:=hcc12 4 _ rfl;(try simp only [show (k134).sz=6 from rfl,Nat.mul_one,Nat.add_zero] at hx12_4);have hf12_4:=hfr12 4;(try simp only [show (k134).sz=6 from rfl,Nat.mul_one,Nat.add_zero] at hf12_4);have hx12_5:=hcc12 5 _ rfl;(try simp only [show (k134).sz=6 from rfl,Nat.mul_one,Nat.add_zero] at hx12_5);have hf12_5:=hfr12 5;(try simp only [show (k134).sz=6 from rfl,Nat.mul_one,Nat.add_zero] at hf12_5);clear hcl12 hcc12 hfr12;(try clear hM12))|((with_reducible refine gate_store (t:=134) (p:=21) rfl ?_);refine store_event (t:=134) (p:=21) (v:=?vo_w13) (w1:=((((((w11.setCell ⟨go10,(x4_1:Int).toNat*6,none⟩ (.int .i64 t284)).setCell ⟨go10,(x4_1:Int).toNat*6+1,none⟩ (.int .i64 t285)).setCell ⟨go10,(x4_1:Int).toNat*6+2,none⟩ (.string t286)).setCell ⟨go10,(x4_1:Int).toNat*6+3,none⟩ (.int .i64 t287)).setCell ⟨go10,(x4_1:Int).toNat*6+4,none⟩ (.int .i64 t288)).setCell ⟨go10,(x4_1:Int).toNat*6+5,none⟩ (.string t289))) ?hg ?ho ?hn ?hr ?_;(case ho=>rfl);(case hg=>rfl);(case hn=>rfl);(case hr=>first|(go_simp;done)|(go_simp;rfl));intro wx hw;have hg:w11.grownBy wx (some go10):=(by rw [hw];exact HP12.2);have hp_:Kd.R k134 134 wx w.heap.size (fun _=>True) (.slice (some ⟨go10,0,none⟩) x3_1.length co10) y290:=(by rw [hw,Ny290.out];exact HP12.1);clear HP12;replace HO_3:=a_ (hp_);replace HB:=a_ ((by rw [hw];exact below_set (below_set (below_set (below_set (below_set (below_set (HB.out) GB10.out) GB10.out) GB10.out) GB10.out) GB10.out) GB10.out:Below w.heap.size w wx));clear hg hw hp_))
  go_roundg k1
  case measure=>
   have:=HK1.out
   omega
  case rel=>exact ⟨(y290),(wrap64 (x4_1+1)),mq_,H',⟨by have:=HK1.out;omega⟩,⟨mo_ HO_3.out⟩,⟨mb_ HB⟩⟩
 ·rw [if_neg c6] at H;have c6b0:=cf_ c6;clear c6;obtain rfl:=oi_ H;go_wp2;go_ret;exact ⟨_,me_,mo_ HO_3.out,mb_ HB⟩
def laws_toPattern.f (k:Nat) (a0_0:Bool) (a0_1:ByteArray) (l0_2:List (S160)):Option (Bool×ByteArray×(List (S134))):=(laws_toTermS.f k l0_2).bind fun t294=>(some (a0_0,a0_1,t294))
theorem laws_toPattern.mono:∀a0 a1 a2 k,LeO (laws_toPattern.f k a0 a1 a2) (laws_toPattern.f (k+1) a0 a1 a2):=by
 intro a0 a1 a2 k;unfold laws_toPattern.f
 repeat' with_reducible first|apply laws_toTermS.mono|apply LeO.refl|apply LeO.none|refine LeO.ite ?_ ?_|refine LeO.bind ?_ (fun _=>?_)
set_option maxHeartbeats 8000000 in
set_option maxRecDepth 100000 in
theorem laws_toPattern.calls (k:Nat) (a0_0:Bool) (a0_1:ByteArray) (A0_2:Option Addr) (c0_2:Nat) (l0_2:List (S160)) (r1:Bool) (r2:ByteArray) (r3:List (S134)) (w:World) (hr0_2:Kd.C k160 w A0_2 l0_2.length l0_2) (hc0_2:l0_2.length≤c0_2) (h:laws_toPattern.f k a0_0 a0_1 l0_2=some (r1,r2,r3)):
  Calls Tryz.prog 72 #[.agg #[.bool a0_0,.string a0_1,.slice A0_2 l0_2.length c0_2]] w fun e w'=>∃v2_:Value,e=.returned (.agg #[.bool r1,.string r2,v2_])∧Kd.R k134 134 w' w.heap.size (fun _=>True) v2_ r3∧Below w.heap.size w w':=by
 have hu112:=Tryz.underlying112;have hu101:=Tryz.underlying101;have HR0_2:=a_ hr0_2;have HC0_2:=a_ hc0_2;clear hr0_2 hc0_2;have HB:=a_ (Below.refl w.heap.size w);have H:((laws_toTermS.f k l0_2).bind fun t294=>(some (a0_0,a0_1,t294)))=some (r1,r2,r3):=h
 clear h;obtain ⟨t294,A2,H⟩:=ob_ H;simp only [Option.some.injEq,Prod.mk.injEq] at H;obtain ⟨rfl,rfl,rfl⟩:=H;go_enter Tryz.func72,Tryz.ntmps72;go_wp2_with (first|((with_reducible refine gate_dst (N:=1) rfl ?_);refine bh_ 1 #[.bool a0_0,.string a0_1,.slice A0_2 l0_2.length c0_2] 112 HB ?_;intro gb291 hg wx BK291 GE291 hb;replace HB:=ms_ HB hb;clear hb hg)|((with_reducible refine gate_dst (N:=2) rfl ?_);refine bh_ 2 #[.bool false,.string (⟨#[]⟩:ByteArray),.slice none 0 0] 101 HB ?_;intro gb292 hg wx BK292 GE292 hb;obtain ⟨NB291_292,NB292_291⟩:=mn_ BK291 hg;replace BK291:=mk_ BK291 hb;replace HB:=ms_ HB hb;clear hb hg)|((with_reducible refine gate_dst (N:=3) rfl ?_);refine bh_ 3 #[.bool false,.string (⟨#[]⟩:ByteArray),.slice none 0 0] 101 HB ?_;intro gb293 hg wx BK293 GE293 hb;obtain ⟨NB291_293,NB293_291⟩:=mn_ BK291 hg;obtain ⟨NB292_293,NB293_292⟩:=mn_ BK292 hg;replace BK291:=mk_ BK291 hb;replace BK292:=mk_ BK292 hb;replace HB:=ms_ HB hb;clear hb hg;have nNB291_292:=NB291_292.out;have nNB292_291:=NB292_291.out;have nNB291_293:=NB291_293.out;have nNB293_291:=NB293_291.out;replace hz291:=cz3 BK291;have nNB293_292:=NB293_292.out;have nNB292_293:=NB292_293.out;replace hz293:=cz3 BK293)|((with_reducible refine gate_callee (f:=93) rfl ?_);refine goesL_ (some 12) rfl rfl Tryz.func93 (by kernel_rfl) rfl #[.slice A0_2 l0_2.length c0_2] rfl mw_ ?_;(with_reducible refine (laws_toTermS.calls k _ _ l0_2 t294 _ ?side1 HC0_2.out A2.out).mono ?_);(case side1=>exact Kd.C_below HR0_2.out (mb_ HB));rintro e wx ⟨v295,rfl,ho0,hb⟩;refine ⟨_,rfl,?_⟩;have HO296:=a_ (Kd.R_lower ho0 (below_size (mb_ HB)));replace BK291:=mk_ BK291 hb;replace BK292:=mk_ BK292 hb;replace BK293:=a_ (blk_below (g:=gb293) (o:=.cells #[.bool a0_0,.string a0_1,.slice none 0 0] 101 (0,0)) (mp_ BK293) hb);replace HB:=ms_ HB hb;(try clear hb ho0);obtain ⟨Ao12,co12,eo12⟩:=Kd.R_slice HO296.out;subst eo12;replace hz293:=cz3 BK293;replace hz292:=cz3 BK292));refine bodyPost_ret (results_cell_row rfl _ _ gb292 101 #[.bool a0_0,.string a0_1,.slice Ao12 t294.length co12] (0,0) _ rfl (mp_ BK292) Tryz.underlying101 rfl (by kernel_rfl)) rfl ?_;exact ⟨_,me_,mo_ (Kd.R_mono (Kd.R_far (p:=⟨gb292,2,none⟩) (Kd.R_far (p:=⟨gb292,1,none⟩) (Kd.R_far (p:=⟨gb292,0,none⟩) (Kd.R_far (p:=⟨gb293,2,none⟩) (Kd.R_types (Kd.R_types HO296.out BK293.out (by decide)) BK292.out (by decide)) (fun _ hk=>hk.1.2) (.slice Ao12 t294.length co12)) (fun _ hk=>hk.2) (.bool a0_0)) (fun _ hk=>hk.2) (.string a0_1)) (fun _ hk=>hk.2) (.slice Ao12 t294.length co12)) (fun _ hk=>trivial)),mb_ HB⟩
def laws_toPatternS.l0:Nat→List (S112)→List (S101)→Int→Option ((List (S101)))
 | 0,_,_,_=>none
 | k+1,x0,x3,x4=>if x4<(x0.length:Int) then (if 0≤x4 then ((laws_toPattern.f k ((rd_T112 x0 x4).f0) ((rd_T112 x0 x4).f1) ((rd_T112 x0 x4).f2)).bind fun bt301=>(if x4<(x3.length:Int) then (laws_toPatternS.l0 k x0 (x3.set (x4:Int).toNat (⟨bt301.1,bt301.2.1,bt301.2.2⟩:S101)) (wrap64 (x4+1))) else (none))) else (none)) else (some x3)
def laws_toPatternS.f (k:Nat) (l0:List (S112)):Option ((List (S101))):=if 0≤(l0.length:Int) then (if ((l0.length:Int):Int).toNat≤5864062014805 then (laws_toPatternS.l0 k l0 (List.replicate ((l0.length:Int):Int).toNat z101) 0) else (none)) else (none)
theorem laws_toPatternS.mono_l:∀k,(∀y0 y1 y2,LeO (laws_toPatternS.l0 k y0 y1 y2) (laws_toPatternS.l0 (k+1) y0 y1 y2))
 | 0=>fun _ _ _ r h=>by simp [laws_toPatternS.l0] at h
 | k+1=>by
  have ih0:=laws_toPatternS.mono_l k
  ·intro y0 y1 y2;unfold laws_toPatternS.l0
   repeat' with_reducible first|apply ih0|apply laws_toPattern.mono|apply LeO.refl|apply LeO.none|refine LeO.ite ?_ ?_|refine LeO.bind ?_ (fun _=>?_)
theorem laws_toPatternS.mono:∀a0 k,LeO (laws_toPatternS.f k a0) (laws_toPatternS.f (k+1) a0):=by
 intro a0 k;have ih0:=laws_toPatternS.mono_l k;unfold laws_toPatternS.f
 repeat' with_reducible first|apply ih0|apply laws_toPattern.mono|apply LeO.refl|apply LeO.none|refine LeO.ite ?_ ?_|refine LeO.bind ?_ (fun _=>?_)
set_option maxHeartbeats 8000000 in
set_option maxRecDepth 100000 in
theorem laws_toPatternS.calls (k:Nat) (A0:Option Addr) (c0:Nat) (l0:List (S112)) (r:List (S101)) (w:World) (hr0:Kd.C k112 w A0 l0.length l0) (hc0:l0.length≤c0) (h:laws_toPatternS.f k l0=some r):
  Calls Tryz.prog 52 #[.slice A0 l0.length c0] w fun e w'=>∃v0_:Value,e=.returned (v0_)∧Kd.S k101 101 w' w.heap.size (fun _=>True) v0_ r∧Below w.heap.size w w':=by
 have hu112:=Tryz.underlying112;have hu101:=Tryz.underlying101;have HR0:=a_ hr0;have HC0:=a_ hc0;clear hr0 hc0;have HB:=a_ (Below.refl w.heap.size w);have H:=h;unfold laws_toPatternS.f at H
 clear h;by_cases c2:0≤(l0.length:Int)
 case neg=>
  rw [if_neg c2] at H;cases H
 rw [if_pos c2] at H;have c2b0:=eq_true c2;have c2b1:=ct_ c2;clear c2;by_cases c3:((l0.length:Int):Int).toNat≤5864062014805
 case neg=>
  rw [if_neg c3] at H;cases H
 rw [if_pos c3] at H;have c3b0:=eq_true c3;have c3b1:=ct_ c3;clear c3;obtain ⟨y297,hy297⟩:∃y_:List (S101),y_=(List.replicate ((l0.length:Int):Int).toNat z101):=⟨_,rfl⟩;rw [←hy297] at H;(try rw [Option.bind_some] at H);have Ny297:=a_ hy297;clear hy297;have H':=a_ H;clear H;go_enter Tryz.func52,Tryz.ntmps52;go_wp2_with (first|((with_reducible refine gate_dst (N:=7) rfl ?_);refine Kd.S_make k101 _ 101 rfl (N:=7) rfl 54 _ _ rfl (l0.length:Int) rfl rfl Tryz.underlying54 (.agg #[(.bool false),(.string ⟨#[]⟩),(.slice none 0 0)]) 48 info101 rfl (by decide) (by omega) z101 (ok:=fun _=>True) (okp:=fun _=>True) (k101_mkM _ _ _ z101 (Kd.R_nil _ _ _ _ _)) (fun _ hk=>hk) trivial (md_) (Nat.le_trans (Nat.mul_le_mul_right _ (md_:(l0.length:Int).toNat≤5864062014805)) (by omega)) (Below.refl _ _) (Nat.le_refl _) ?_;intro v298 wx ho5 hb hg_ hnew_;clear hg_ hnew_;(first|rw [←Ny297.out] at ho5|(simp only [Int.reduceToNat] at ho5;rw [←Ny297.out] at ho5));have HO299:=a_ (Kd.S_lower ho5 (below_size (mb_ HB)));replace HB:=ms_ HB hb;clear hb ho5));go_loopg [4] k (fun kq v4 w'=>∃(x3_1:List (S101)) (x4_1:Int),v4=.int .i64 x4_1∧Aside0 (laws_toPatternS.l0 kq l0 x3_1 x4_1=some r)∧Aside0 (kq≤k)∧Aside0 (Kd.S k101 101 w' w.heap.size (fun _=>True) v298 x3_1)∧Aside0 (Below w.heap.size w w'))
 case atStart=>exact ⟨(y297),(0),mq_,H',⟨Nat.le_refl _⟩,⟨by (with_reducible repeat (first|apply Kd.S_alloc|apply Kd.S_drewN|apply Kd.S_drew));exact HO299.out⟩,⟨mb_ HB⟩⟩
 clear H';(try clear c2b0);(try clear c2b1);(try clear c3b0);(try clear c3b1);obtain ⟨x3_1,x4_1,rfl,HA,HK1,HO_3,HB⟩:=hrel;obtain _|k1:=gk
 ·exact absurd HA.out (by simp [laws_toPatternS.l0])
 have H:=HA.out;clear HA;simp only [laws_toPatternS.l0] at H;by_cases c6:x4_1<(l0.length:Int)
 ·rw [if_pos c6] at H;have c6b0:=ct_ c6;clear c6;by_cases c7:0≤x4_1
  case neg=>
   rw [if_neg c7] at H;cases H
  rw [if_pos c7] at H;have c7b0:=ct_ c7;clear c7;obtain ⟨⟨t301,t302,t303⟩,A8,H⟩:=ob_ H;by_cases c9:x4_1<(x3_1.length:Int)
  case neg=>
   rw [if_neg c9] at H;cases H
  rw [if_pos c9] at H;have c9b0:=ct_ c9;clear c9;obtain ⟨y306,hy306⟩:∃y_:List (S101),y_=(x3_1.set (x4_1:Int).toNat (⟨t301,t302,t303⟩:S101)):=⟨_,rfl⟩;rw [←hy306] at H;(try rw [Option.bind_some] at H);have Ny306:=a_ hy306;clear hy306;have H':=a_ H;clear H;have p300:0≤(x4_1:Int):=md_
  have q300:x4_1<(l0.length:Int):=md_
  obtain ⟨ad300,A300_2,c300_2,e300,hx300_0,hx300_1,hx300_2,hl300_2,hi300_2⟩:=at_T112 HR0.out x4_1 p300 q300;cases e300;replace hx300_0:=mx_ HB hx300_0;replace hx300_1:=mx_ HB hx300_1;replace hx300_2:=mx_ HB hx300_2;have HR300_2:=a_ hi300_2;have HC300_2:=a_ hl300_2;clear hi300_2 hl300_2;replace p300:=eq_true p300;replace q300:=eq_true q300;go_wp2_with (first|((with_reducible refine gate_callee (f:=72) rfl ?_);refine goesL_ (some 20) rfl rfl Tryz.func72 (by kernel_rfl) rfl #[.agg #[.bool ((rd_T112 l0 x4_1).f0),.string ((rd_T112 l0 x4_1).f1),.slice A300_2 ((rd_T112 l0 x4_1).f2).length c300_2]] rfl mw_ ?_;(with_reducible refine (laws_toPattern.calls k1 ((rd_T112 l0 x4_1).f0) ((rd_T112 l0 x4_1).f1) _ _ ((rd_T112 l0 x4_1).f2) t301 t302 t303 _ ?side1 HC300_2.out A8.out).mono ?_);(case side1=>exact mt_ HR300_2 HB);rintro e w11 ⟨v304,rfl,ho0,hb⟩;refine ⟨_,rfl,?_⟩;have HO305:=a_ (Kd.R_lower ho0 (below_size (mb_ HB)));replace HO_3:=a_ (Kd.S_elder' (by (with_reducible repeat (first|apply Kd.S_alloc|apply Kd.S_drewN|apply Kd.S_drew));exact HO_3.out) (Kd.R_base ho0) hb);replace HB:=ms_ HB hb;(try clear hb ho0);have p10:0≤(x4_1:Int):=md_;have q10:(x4_1:Int)<((x3_1.length:Int):Int):=md_;obtain ⟨go10,co10,eo10,gb10,gl10,cl10,HG10⟩:=Kd.S_form HO_3.out (by omega);(first|cases eo10|(injection eo10 with ea_ en_ ec_;(first|subst ea_|(injection ea_ with ea_;subst ea_));subst ec_;clear en_));have GB10:=a_ gb10;have GG10:=a_ HG10;clear gb10 gl10 HG10;obtain ⟨_,ce10,hcl10,hM10,hcc10,hfr10,_,_⟩:=Kd.S_elem HO_3.out z101 (x4_1:Int) p10 q10;obtain ⟨ve10_2,rfl,ge10_2⟩:=k101_openM hM10;have hx10_0:w11.cell? ⟨go10,(x4_1:Int).toNat*3,none⟩=some (.bool ((rd_T101 x3_1 x4_1).f0)):=hcc10 0 _ rfl;have hx10_1:w11.cell? ⟨go10,(x4_1:Int).toNat*3+1,none⟩=some (.string ((rd_T101 x3_1 x4_1).f1)):=hcc10 1 _ rfl;have hx10_2:w11.cell? ⟨go10,(x4_1:Int).toNat*3+2,none⟩=some (ve10_2):=hcc10 2 _ rfl;have hf10_0:w11.frozen? ⟨go10,(x4_1:Int).toNat*3,none⟩=false:=hfr10 0;have hf10_1:w11.frozen? ⟨go10,(x4_1:Int).toNat*3+1,none⟩=false:=hfr10 1;have hf10_2:w11.frozen? ⟨go10,(x4_1:Int).toNat*3+2,none⟩=false:=hfr10 2;clear hcl10 hcc10 hfr10;(try clear hM10);replace p10:=eq_true p10;replace q10:=eq_true q10;have n_:=a_ (Kd.S_mono (ok':=(fun k_=>some k_≠(v304:Value).ownBlock)) HO_3.out (fun k_ hk=>hk.2));clear HO_3;have HO_3:=n_;clear n_;have HX12:=a_ (show Kd.S k101 101 w11 w.heap.size (fun k_=>((fun _=>True)) k_∧¬((fun k_=>some k_=(v304:Value).ownBlock)) k_) (.slice (some ⟨go10,0,none⟩) x3_1.length co10) x3_1 from (by (with_reducible repeat (first|apply Kd.S_alloc|apply Kd.S_drewN|apply Kd.S_drew));exact Kd.S_mono HO_3.out (fun k_ hk=>⟨trivial,fun e_=>hk e_⟩)));obtain ⟨oki12,ce12,hcl12,hM12,hcc12,hfr12,hoki12,hH12⟩:=Kd.S_elem HX12.out z101 (x4_1:Int) (md_) (by have h_:(x4_1:Int)<((x3_1.length:Int):Int):=md_;first|exact h_|(have e_:=(Kd.S_reads' HO_3.out).1;omega)|simpa using h_);obtain ⟨ve12_2,rfl,ge12_2⟩:=k101_openM hM12;have HP12:=Kd.S_seg hH12 (md_) (by have h_:(x4_1:Int)<((x3_1.length:Int):Int):=md_;first|exact h_|(have e_:=(Kd.S_reads' HO_3.out).1;omega)|simpa using h_) (seg:=[.bool t301,.string t302,v304]) (j:=0) (show 3≤3 from by decide) (x':=(⟨t301,t302,t303⟩:S101)) (k101_mkM _ _ _ (⟨t301,t302,t303⟩:S101) (Kd.R_mono (Kd.R_tight rfl (Kd.R_mono (ok':=fun k_=>((fun _=>True)) k_∧k_≠go10) (Kd.R_apart' (HO305.out) (Kd.S_typed HO_3.out) (by decide)) (fun k_ hk=>⟨trivial,fun e_=>(hk.2) (by rw [e_];rfl)⟩))) (fun _ h_=>Or.inr (h_)))) (fun _ hk=>hk) (fun k_ hk_=>((Kd.R_mono (ok':=fun k_=>((fun _=>True)) k_∧k_≠go10) (Kd.R_apart' (HO305.out) (Kd.S_typed HO_3.out) (by decide)) (fun k_ hk=>⟨trivial,fun e_=>(hk.2) (by rw [e_];rfl)⟩))).1 k_ hk_.symm);have hx12_0:=hcc12 0 _ rfl;(try simp only [show (k101).sz=3 from rfl,Nat.mul_one,Nat.add_zero] at hx12_0);have hf12_0:=hfr12 0;(try simp only [show (k101).sz=3 from rfl,Nat.mul_one,Nat.add_zero] at hf12_0);have hx12_1:=hcc12 1 _ rfl;(try simp only [show (k101).sz=3 from rfl,Nat.mul_one,Nat.add_zero] at hx12_1);have hf12_1:=hfr12 1;(try simp only [show (k101).sz=3 from rfl,Nat.mul_one,Nat.add_zero] at hf12_1);have hx12_2:=hcc12 2 _ rfl;(try simp only [show (k101).sz=3 from rfl,Nat.mul_one,Nat.add_zero] at hx12_2);have hf12_2:=hfr12 2;(try simp only [show (k101).sz=3 from rfl,Nat.mul_one,Nat.add_zero] at hf12_2);clear hcl12 hcc12 hfr12 hoki12 hH12;(try clear hM12))|((with_reducible refine gate_store (t:=101) (p:=21) rfl ?_);refine store_event (t:=101) (p:=21) (v:=?vo_w13) (w1:=(((w11.setCell ⟨go10,(x4_1:Int).toNat*3,none⟩ (.bool t301)).setCell ⟨go10,(x4_1:Int).toNat*3+1,none⟩ (.string t302)).setCell ⟨go10,(x4_1:Int).toNat*3+2,none⟩ (v304))) ?hg ?ho ?hn ?hr ?_;(case ho=>rfl);(case hg=>rfl);(case hn=>rfl);(case hr=>first|(go_simp;done)|(go_simp;rfl)|((obtain ⟨As0_,cs0_,es0_⟩:=(by first|exact Kd.R_slice (Kd.S_R (Aside0.out (by with_reducible assumption:Aside0 (Kd.S _ _ _ _ _ v304 _))))|exact Kd.R_slice (Aside0.out (by with_reducible assumption:Aside0 (Kd.R _ _ _ _ _ v304 _)))|exact Kd.R_slice (Aside0.out ‹Aside0 (Kd.R _ _ _ _ _ v304 _)›):∃A_ c_,v304=Value.slice A_ _ c_));subst es0_;go_simp;done)|((obtain ⟨As0_,cs0_,es0_⟩:=(by first|exact Kd.R_slice (Kd.S_R (Aside0.out (by with_reducible assumption:Aside0 (Kd.S _ _ _ _ _ v304 _))))|exact Kd.R_slice (Aside0.out (by with_reducible assumption:Aside0 (Kd.R _ _ _ _ _ v304 _)))|exact Kd.R_slice (Aside0.out ‹Aside0 (Kd.R _ _ _ _ _ v304 _)›):∃A_ c_,v304=Value.slice A_ _ c_));subst es0_;go_simp;rfl));intro wx hw;have hg:w11.grownBy wx (some go10):=(by rw [hw];exact HP12.2);have hp_:Kd.S k101 101 wx w.heap.size (fun _=>True) (.slice (some ⟨go10,0,none⟩) x3_1.length co10) y306:=(by rw [hw,Ny306.out];exact HP12.1);clear HP12;replace HO_3:=a_ (hp_);replace HB:=a_ ((by rw [hw];exact below_set (below_set (below_set (HB.out) GB10.out) GB10.out) GB10.out:Below w.heap.size w wx));clear HO305;clear hg hw hp_))
  go_roundg k1
  case measure=>
   have:=HK1.out
   omega
  case rel=>exact ⟨(y306),(wrap64 (x4_1+1)),mq_,H',⟨by have:=HK1.out;omega⟩,⟨by (with_reducible repeat (first|apply Kd.S_alloc|apply Kd.S_drewN|apply Kd.S_drew));exact HO_3.out⟩,⟨mb_ HB⟩⟩
 ·rw [if_neg c6] at H;have c6b0:=cf_ c6;clear c6;obtain rfl:=oi_ H;go_wp2;go_ret;exact ⟨_,me_,by (with_reducible repeat (first|apply Kd.S_alloc|apply Kd.S_drewN|apply Kd.S_drew));exact HO_3.out,mb_ HB⟩
def laws_toExpr.f (a0_0:Int) (a0_1:Int) (a0_2:ByteArray) (a0_3:Int) (a0_4:Int) (a0_5:ByteArray) (a0_6:Int) (a0_7:Int):Option (Int×Int×ByteArray×Int×Int×ByteArray×Int×Int):=(laws_toValue.f a0_3 a0_4 a0_5).bind fun bt310=>(some (a0_0,a0_1,a0_2,bt310.1,bt310.2.1,bt310.2.2,a0_6,a0_7))
set_option maxHeartbeats 8000000 in
set_option maxRecDepth 100000 in
theorem laws_toExpr.calls (a0_0:Int) (a0_1:Int) (a0_2:ByteArray) (a0_3:Int) (a0_4:Int) (a0_5:ByteArray) (a0_6:Int) (a0_7:Int) (r1:Int) (r2:Int) (r3:ByteArray) (r4:Int) (r5:Int) (r6:ByteArray) (r7:Int) (r8:Int) (w:World) (h:laws_toExpr.f a0_0 a0_1 a0_2 a0_3 a0_4 a0_5 a0_6 a0_7=some (r1,r2,r3,r4,r5,r6,r7,r8)):
  Calls Tryz.prog 73 #[.agg #[.int .i64 a0_0,.int .u8 a0_1,.string a0_2,.int .i64 a0_3,.int .i64 a0_4,.string a0_5,.int .i64 a0_6,.int .i64 a0_7]] w fun e w'=>e=.returned (.agg #[.int .i64 r1,.int .u8 r2,.string r3,.int .i64 r4,.int .i64 r5,.string r6,.int .i64 r7,.int .i64 r8])∧Below w.heap.size w w':=by
 have hu116:=Tryz.underlying116;have hu106:=Tryz.underlying106;have hu114:=Tryz.underlying114;have hu104:=Tryz.underlying104;have HB:=a_ (Below.refl w.heap.size w);have H:=h;unfold laws_toExpr.f at H
 clear h;obtain ⟨⟨t310,t311,t312⟩,A2,H⟩:=ob_ H;simp only [Option.some.injEq,Prod.mk.injEq] at H;obtain ⟨rfl,rfl,rfl,rfl,rfl,rfl,rfl,rfl⟩:=H;go_enter Tryz.func73,Tryz.ntmps73;go_wp2_with (first|((with_reducible refine gate_dst (N:=1) rfl ?_);refine bh_ 1 #[.int .i64 a0_0,.int .u8 a0_1,.string a0_2,.int .i64 a0_3,.int .i64 a0_4,.string a0_5,.int .i64 a0_6,.int .i64 a0_7] 116 HB ?_;intro gb307 hg wx BK307 GE307 hb;replace HB:=ms_ HB hb;clear hb hg)|((with_reducible refine gate_dst (N:=2) rfl ?_);refine bh_ 2 #[.int .i64 0,.int .u8 0,.string (⟨#[]⟩:ByteArray),.int .i64 0,.int .i64 0,.string (⟨#[]⟩:ByteArray),.int .i64 0,.int .i64 0] 106 HB ?_;intro gb308 hg wx BK308 GE308 hb;obtain ⟨NB307_308,NB308_307⟩:=mn_ BK307 hg;replace BK307:=mk_ BK307 hb;replace HB:=ms_ HB hb;clear hb hg)|((with_reducible refine gate_dst (N:=3) rfl ?_);refine bh_ 3 #[.int .i64 0,.int .u8 0,.string (⟨#[]⟩:ByteArray),.int .i64 0,.int .i64 0,.string (⟨#[]⟩:ByteArray),.int .i64 0,.int .i64 0] 106 HB ?_;intro gb309 hg wx BK309 GE309 hb;obtain ⟨NB307_309,NB309_307⟩:=mn_ BK307 hg;obtain ⟨NB308_309,NB309_308⟩:=mn_ BK308 hg;replace BK307:=mk_ BK307 hb;replace BK308:=mk_ BK308 hb;replace HB:=ms_ HB hb;clear hb hg;have nNB307_308:=NB307_308.out;have nNB308_307:=NB308_307.out;have nNB307_309:=NB307_309.out;have nNB309_307:=NB309_307.out;replace hz307:=cz8 BK307;have nNB309_308:=NB309_308.out;have nNB308_309:=NB308_309.out;replace hz309:=cz8 BK309)|((with_reducible refine gate_callee (f:=94) rfl ?_);refine goesL_ (some 15) rfl rfl Tryz.func94 (by kernel_rfl) rfl #[.agg #[.int .i64 a0_3,.int .i64 a0_4,.string a0_5]] rfl mw_ ?_;(with_reducible refine (laws_toValue.calls a0_3 a0_4 a0_5 t310 t311 t312 _ A2.out).mono ?_);rintro e wx ⟨rfl,hb⟩;refine ⟨_,rfl,?_⟩;replace BK307:=mk_ BK307 hb;replace BK308:=mk_ BK308 hb;replace BK309:=a_ (blk_below (g:=gb309) (o:=.cells #[.int .i64 a0_0,.int .u8 a0_1,.string a0_2,.int .i64 0,.int .i64 0,.string (⟨#[]⟩:ByteArray),.int .i64 0,.int .i64 0] 106 (0,0)) (mp_ BK309) hb);replace HB:=ms_ HB hb;(try clear hb);replace hz309:=cz8 BK309;replace hz307:=cz8 BK307;replace hz308:=cz8 BK308));refine bodyPost_ret (results_cell_row rfl _ _ gb308 106 #[.int .i64 a0_0,.int .u8 a0_1,.string a0_2,.int .i64 t310,.int .i64 t311,.string t312,.int .i64 a0_6,.int .i64 a0_7] (0,0) _ rfl (mp_ BK308) Tryz.underlying106 rfl (by kernel_rfl)) rfl ?_;exact ⟨me_,mb_ HB⟩
def laws_toExprS.l0:Nat→List (S116)→List (S106)→Int→Option ((List (S106)))
 | 0,_,_,_=>none
 | k+1,x0,x3,x4=>if x4<(x0.length:Int) then (if 0≤x4 then ((laws_toExpr.f ((rd_T116 x0 x4).f0) ((rd_T116 x0 x4).f1) ((rd_T116 x0 x4).f2) ((rd_T116 x0 x4).f3.f0) ((rd_T116 x0 x4).f3.f1) ((rd_T116 x0 x4).f3.f2) ((rd_T116 x0 x4).f4) ((rd_T116 x0 x4).f5)).bind fun bt317=>(if x4<(x3.length:Int) then (laws_toExprS.l0 k x0 (x3.set (x4:Int).toNat (⟨bt317.1,bt317.2.1,bt317.2.2.1,(⟨bt317.2.2.2.1,bt317.2.2.2.2.1,bt317.2.2.2.2.2.1⟩:S104),bt317.2.2.2.2.2.2.1,bt317.2.2.2.2.2.2.2⟩:S106)) (wrap64 (x4+1))) else (none))) else (none)) else (some x3)
def laws_toExprS.f (k:Nat) (l0:List (S116)):Option ((List (S106))):=if 0≤(l0.length:Int) then (if ((l0.length:Int):Int).toNat≤3518437208883 then (laws_toExprS.l0 k l0 (List.replicate ((l0.length:Int):Int).toNat z106) 0) else (none)) else (none)
theorem laws_toExprS.mono_l:∀k,(∀y0 y1 y2,LeO (laws_toExprS.l0 k y0 y1 y2) (laws_toExprS.l0 (k+1) y0 y1 y2))
 | 0=>fun _ _ _ r h=>by simp [laws_toExprS.l0] at h
 | k+1=>by
  have ih0:=laws_toExprS.mono_l k
  ·intro y0 y1 y2;unfold laws_toExprS.l0
   repeat' with_reducible first|apply ih0|apply LeO.refl|apply LeO.none|refine LeO.ite ?_ ?_|refine LeO.bind ?_ (fun _=>?_)
theorem laws_toExprS.mono:∀a0 k,LeO (laws_toExprS.f k a0) (laws_toExprS.f (k+1) a0):=by
 intro a0 k;have ih0:=laws_toExprS.mono_l k;unfold laws_toExprS.f
 repeat' with_reducible first|apply ih0|apply LeO.refl|apply LeO.none|refine LeO.ite ?_ ?_|refine LeO.bind ?_ (fun _=>?_)
set_option maxHeartbeats 8000000 in
set_option maxRecDepth 100000 in
theorem laws_toExprS.calls (k:Nat) (A0:Option Addr) (c0:Nat) (l0:List (S116)) (r:List (S106)) (w:World) (hr0:Kd.C k116 w A0 l0.length l0) (hc0:l0.length≤c0) (h:laws_toExprS.f k l0=some r):
  Calls Tryz.prog 53 #[.slice A0 l0.length c0] w fun e w'=>∃v0_:Value,e=.returned (v0_)∧Kd.R k106 106 w' w.heap.size (fun _=>True) v0_ r∧Below w.heap.size w w':=by
 have hu116:=Tryz.underlying116;have hu106:=Tryz.underlying106;have HR0:=a_ hr0;have HC0:=a_ hc0;clear hr0 hc0;have HB:=a_ (Below.refl w.heap.size w);have H:=h;unfold laws_toExprS.f at H
 clear h;by_cases c2:0≤(l0.length:Int)
 case neg=>
  rw [if_neg c2] at H;cases H
 rw [if_pos c2] at H;have c2b0:=eq_true c2;have c2b1:=ct_ c2;clear c2;by_cases c3:((l0.length:Int):Int).toNat≤3518437208883
 case neg=>
  rw [if_neg c3] at H;cases H
 rw [if_pos c3] at H;have c3b0:=eq_true c3;have c3b1:=ct_ c3;clear c3;obtain ⟨y313,hy313⟩:∃y_:List (S106),y_=(List.replicate ((l0.length:Int):Int).toNat z106):=⟨_,rfl⟩;rw [←hy313] at H;(try rw [Option.bind_some] at H);have Ny313:=a_ hy313;clear hy313;have H':=a_ H;clear H;go_enter Tryz.func53,Tryz.ntmps53;go_wp2_with (first|((with_reducible refine gate_dst (N:=7) rfl ?_);refine Kd.R_make k106 _ 106 rfl (N:=7) rfl 55 _ _ rfl (l0.length:Int) rfl rfl Tryz.underlying55 (.agg #[(.int .i64 0),(.int .u8 0),(.string ⟨#[]⟩),(.int .i64 0),(.int .i64 0),(.string ⟨#[]⟩),(.int .i64 0),(.int .i64 0)]) 80 info106 rfl (by decide) (by omega) z106 (ok:=fun _=>True) (okp:=fun _=>True) (k106_mkM _ _ _ z106 ) (fun _ hk=>hk) trivial (md_) (Nat.le_trans (Nat.mul_le_mul_right _ (md_:(l0.length:Int).toNat≤3518437208883)) (by omega)) (Below.refl _ _) (Nat.le_refl _) ?_;intro v314 wx ho5 hb hg_ hnew_;clear hg_ hnew_;(first|rw [←Ny313.out] at ho5|(simp only [Int.reduceToNat] at ho5;rw [←Ny313.out] at ho5));have HO315:=a_ (Kd.R_lower ho5 (below_size (mb_ HB)));replace HB:=ms_ HB hb;clear hb ho5));go_loopg [4] k (fun kq v4 w'=>∃(x3_1:List (S106)) (x4_1:Int),v4=.int .i64 x4_1∧Aside0 (laws_toExprS.l0 kq l0 x3_1 x4_1=some r)∧Aside0 (kq≤k)∧Aside0 (Kd.R k106 106 w' w.heap.size (fun _=>True) v314 x3_1)∧Aside0 (Below w.heap.size w w'))
 case atStart=>exact ⟨(y313),(0),mq_,H',⟨Nat.le_refl _⟩,⟨mo_ HO315.out⟩,⟨mb_ HB⟩⟩
 clear H';(try clear c2b0);(try clear c2b1);(try clear c3b0);(try clear c3b1);obtain ⟨x3_1,x4_1,rfl,HA,HK1,HO_3,HB⟩:=hrel;obtain _|k1:=gk
 ·exact absurd HA.out (by simp [laws_toExprS.l0])
 have H:=HA.out;clear HA;simp only [laws_toExprS.l0] at H;by_cases c6:x4_1<(l0.length:Int)
 ·rw [if_pos c6] at H;have c6b0:=ct_ c6;clear c6;by_cases c7:0≤x4_1
  case neg=>
   rw [if_neg c7] at H;cases H
  rw [if_pos c7] at H;have c7b0:=ct_ c7;clear c7;obtain ⟨⟨t317,t318,t319,t320,t321,t322,t323,t324⟩,A8,H⟩:=ob_ H;by_cases c9:x4_1<(x3_1.length:Int)
  case neg=>
   rw [if_neg c9] at H;cases H
  rw [if_pos c9] at H;have c9b0:=ct_ c9;clear c9;obtain ⟨y325,hy325⟩:∃y_:List (S106),y_=(x3_1.set (x4_1:Int).toNat (⟨t317,t318,t319,(⟨t320,t321,t322⟩:S104),t323,t324⟩:S106)):=⟨_,rfl⟩;rw [←hy325] at H;(try rw [Option.bind_some] at H);have Ny325:=a_ hy325;clear hy325;have H':=a_ H;clear H;have p316:0≤(x4_1:Int):=md_
  have q316:x4_1<(l0.length:Int):=md_
  obtain ⟨ad316,e316,hx316_0,hx316_1,hx316_2,hx316_3,hx316_4,hx316_5,hx316_6,hx316_7⟩:=at_T116 HR0.out x4_1 p316 q316;cases e316;replace hx316_0:=mx_ HB hx316_0;replace hx316_1:=mx_ HB hx316_1;replace hx316_2:=mx_ HB hx316_2;replace hx316_3:=mx_ HB hx316_3;replace hx316_4:=mx_ HB hx316_4;replace hx316_5:=mx_ HB hx316_5;replace hx316_6:=mx_ HB hx316_6;replace hx316_7:=mx_ HB hx316_7;replace p316:=eq_true p316;replace q316:=eq_true q316;go_wp2_with (first|((with_reducible refine gate_callee (f:=73) rfl ?_);refine goesL_ (some 20) rfl rfl Tryz.func73 (by kernel_rfl) rfl #[.agg #[.int .i64 ((rd_T116 l0 x4_1).f0),.int .u8 ((rd_T116 l0 x4_1).f1),.string ((rd_T116 l0 x4_1).f2),.int .i64 ((rd_T116 l0 x4_1).f3.f0),.int .i64 ((rd_T116 l0 x4_1).f3.f1),.string ((rd_T116 l0 x4_1).f3.f2),.int .i64 ((rd_T116 l0 x4_1).f4),.int .i64 ((rd_T116 l0 x4_1).f5)]] rfl mw_ ?_;(with_reducible refine (laws_toExpr.calls ((rd_T116 l0 x4_1).f0) ((rd_T116 l0 x4_1).f1) ((rd_T116 l0 x4_1).f2) ((rd_T116 l0 x4_1).f3.f0) ((rd_T116 l0 x4_1).f3.f1) ((rd_T116 l0 x4_1).f3.f2) ((rd_T116 l0 x4_1).f4) ((rd_T116 l0 x4_1).f5) t317 t318 t319 t320 t321 t322 t323 t324 _ A8.out).mono ?_);rintro e w11 ⟨rfl,hb⟩;refine ⟨_,rfl,?_⟩;replace HO_3:=ro_ HO_3 hb;replace HB:=ms_ HB hb;(try clear hb);have p10:0≤(x4_1:Int):=md_;have q10:(x4_1:Int)<((x3_1.length:Int):Int):=md_;obtain ⟨go10,co10,eo10,gb10,gl10,cl10,HG10⟩:=Kd.R_form HO_3.out (by omega);(first|cases eo10|(injection eo10 with ea_ en_ ec_;(first|subst ea_|(injection ea_ with ea_;subst ea_));subst ec_;clear en_));have GB10:=a_ gb10;have GG10:=a_ HG10;clear gb10 gl10 HG10;obtain ⟨ce10,hcl10,hM10,hcc10,hfr10⟩:=Kd.R_elem HO_3.out z106 (x4_1:Int) p10 q10;obtain rfl:=k106_openM hM10;have hx10_0:w11.cell? ⟨go10,(x4_1:Int).toNat*8,none⟩=some (.int .i64 ((rd_T106 x3_1 x4_1).f0)):=hcc10 0 _ rfl;have hx10_1:w11.cell? ⟨go10,(x4_1:Int).toNat*8+1,none⟩=some (.int .u8 ((rd_T106 x3_1 x4_1).f1)):=hcc10 1 _ rfl;have hx10_2:w11.cell? ⟨go10,(x4_1:Int).toNat*8+2,none⟩=some (.string ((rd_T106 x3_1 x4_1).f2)):=hcc10 2 _ rfl;have hx10_3:w11.cell? ⟨go10,(x4_1:Int).toNat*8+3,none⟩=some (.int .i64 ((rd_T106 x3_1 x4_1).f3.f0)):=hcc10 3 _ rfl;have hx10_4:w11.cell? ⟨go10,(x4_1:Int).toNat*8+4,none⟩=some (.int .i64 ((rd_T106 x3_1 x4_1).f3.f1)):=hcc10 4 _ rfl;have hx10_5:w11.cell? ⟨go10,(x4_1:Int).toNat*8+5,none⟩=some (.string ((rd_T106 x3_1 x4_1).f3.f2)):=hcc10 5 _ rfl;have hx10_6:w11.cell? ⟨go10,(x4_1:Int).toNat*8+6,none⟩=some (.int .i64 ((rd_T106 x3_1 x4_1).f4)):=hcc10 6 _ rfl;have hx10_7:w11.cell? ⟨go10,(x4_1:Int).toNat*8+7,none⟩=some (.int .i64 ((rd_T106 x3_1 x4_1).f5)):=hcc10 7 _ rfl;have hf10_0:w11.frozen? ⟨go10,(x4_1:Int).toNat*8,none⟩=false:=hfr10 0;have hf10_1:w11.frozen? ⟨go10,(x4_1:Int).toNat*8+1,none⟩=false:=hfr10 1;have hf10_2:w11.frozen? ⟨go10,(x4_1:Int).toNat*8+2,none⟩=false:=hfr10 2;have hf10_3:w11.frozen? ⟨go10,(x4_1:Int).toNat*8+3,none⟩=false:=hfr10 3;have hf10_4:w11.frozen? ⟨go10,(x4_1:Int).toNat*8+4,none⟩=false:=hfr10 4;have hf10_5:w11.frozen? ⟨go10,(x4_1:Int).toNat*8+5,none⟩=false:=hfr10 5;have hf10_6:w11.frozen? ⟨go10,(x4_1:Int).toNat*8+6,none⟩=false:=hfr10 6;have hf10_7:w11.frozen? ⟨go10,(x4_1:Int).toNat*8+7,none⟩=false:=hfr10 7;clear hcl10 hcc10 hfr10;(try clear hM10);replace p10:=eq_true p10;replace q10:=eq_true q10;have HX12:=a_ (show Kd.R k106 106 w11 w.heap.size (fun _=>True) (.slice (some ⟨go10,0,none⟩) x3_1.length co10) x3_1 from (mo_ HO_3.out));obtain ⟨ce12,hcl12,hM12,hcc12,hfr12⟩:=Kd.R_elem HX12.out z106 (x4_1:Int) (md_) (by have h_:(x4_1:Int)<((x3_1.length:Int):Int):=md_;first|exact h_|(have e_:=(Kd.R_reads' HO_3.out).1;omega)|simpa using h_);obtain rfl:=k106_openM hM12;have HP12:=Kd.R_seg HX12.out (x4_1:Int) (md_) (by have h_:(x4_1:Int)<((x3_1.length:Int):Int):=md_;first|exact h_|(have e_:=(Kd.R_reads' HO_3.out).1;omega)|simpa using h_) (seg:=[.int .i64 t317,.int .u8 t318,.string t319,.int .i64 t320,.int .i64 t321,.string t322,.int .i64 t323,.int .i64 t324]) (j:=0) hcl12 hcc12 (show 8≤8 from by decide) (x':=(⟨t317,t318,t319,(⟨t320,t321,t322⟩:S104),t323,t324⟩:S106)) (k106_mkM _ _ _ (⟨t317,t318,t319,(⟨t320,t321,t322⟩:S104),t323,t324⟩:S106) ) (fun _ hk=>hk);have hx12_0:=hcc12 0 _ rfl;(try simp only [show (k106).sz=8 from rfl,Nat.mul_one,Nat.add_zero] at hx12_0);have hf12_0:=hfr12 0;(try simp only [show (k106).sz=8 from rfl,Nat.mul_one,Nat.add_zero] at hf12_0);have hx12_1:=hcc12 1 _ rfl;(try simp only [show (k106).sz=8 from rfl,Nat.mul_one,Nat.add_zero] at hx12_1);have hf12_1:=hfr12 1;(try simp only [show (k106).sz=8 from rfl,Nat.mul_one,Nat.add_zero] at hf12_1);have hx12_2:=hcc12 2 _ rfl;(try simp only [show (k106).sz=8 from rfl,Nat.mul_one,Nat.add_zero] at hx12_2);have hf12_2:=hfr12 2;(try simp only [show (k106).sz=8 from rfl,Nat.mul_one,Nat.add_zero] at hf12_2);have hx12_3:=hcc12 3 _ rfl;(try simp only [show (k106).sz=8 from rfl,Nat.mul_one,Nat.add_zero] at hx12_3);have hf12_3:=hfr12 3;(try simp only [show (k106).sz=8 from rfl,Nat.mul_one,Nat.add_zero] at hf12_3);have hx12_4:=hcc12 4 _ rfl;(try simp only [show (k106).sz=8 from rfl,Nat.mul_one,Nat.add_zero] at hx12_4);have hf12_4:=hfr12 4;(try simp only [show (k106).sz=8 from rfl,Nat.mul_one,Nat.add_zero] at hf12_4);have hx12_5:=hcc12 5 _ rfl;(try simp only [show (k106).sz=8 from rfl,Nat.mul_one,Nat.add_zero] at hx12_5);have hf12_5:=hfr12 5;(try simp only [show (k106).sz=8 from rfl,Nat.mul_one,Nat.add_zero] at hf12_5);have hx12_6:=hcc12 6 _ rfl;(try simp only [show (k106).sz=8 from rfl,Nat.mul_one,Nat.add_zero] at hx12_6);have hf12_6:=hfr12 6;(try simp only [show (k106).sz=8 from rfl,Nat.mul_one,Nat.add_zero] at hf12_6);have hx12_7:=hcc12 7 _ rfl;(try simp only [show (k106).sz=8 from rfl,Nat.mul_one,Nat.add_zero] at hx12_7);have hf12_7:=hfr12 7;(try simp only [show (k106).sz=8 from rfl,Nat.mul_one,Nat.add_zero] at hf12_7);clear hcl12 hcc12 hfr12;(try clear hM12))|((with_reducible refine gate_store (t:=106) (p:=21) rfl ?_);refine store_event (t:=106) (p:=21) (v:=?vo_w13) (w1:=((((((((w11.setCell ⟨go10,(x4_1:Int).toNat*8,none⟩ (.int .i64 t317)).setCell ⟨go10,(x4_1:Int).toNat*8+1,none⟩ (.int .u8 t318)).setCell ⟨go10,(x4_1:Int).toNat*8+2,none⟩ (.string t319)).setCell ⟨go10,(x4_1:Int).toNat*8+3,none⟩ (.int .i64 t320)).setCell ⟨go10,(x4_1:Int).toNat*8+4,none⟩ (.int .i64 t321)).setCell ⟨go10,(x4_1:Int).toNat*8+5,none⟩ (.string t322)).setCell ⟨go10,(x4_1:Int).toNat*8+6,none⟩ (.int .i64 t323)).setCell ⟨go10,(x4_1:Int).toNat*8+7,none⟩ (.int .i64 t324))) ?hg ?ho ?hn ?hr ?_;(case ho=>rfl);(case hg=>rfl);(case hn=>rfl);(case hr=>first|(go_simp;done)|(go_simp;rfl));intro wx hw;have hg:w11.grownBy wx (some go10):=(by rw [hw];exact HP12.2);have hp_:Kd.R k106 106 wx w.heap.size (fun _=>True) (.slice (some ⟨go10,0,none⟩) x3_1.length co10) y325:=(by rw [hw,Ny325.out];exact HP12.1);clear HP12;replace HO_3:=a_ (hp_);replace HB:=a_ ((by rw [hw];exact below_set (below_set (below_set (below_set (below_set (below_set (below_set (below_set (HB.out) GB10.out) GB10.out) GB10.out) GB10.out) GB10.out) GB10.out) GB10.out) GB10.out:Below w.heap.size w wx));clear hg hw hp_))
  go_roundg k1
  case measure=>
   have:=HK1.out
   omega
  case rel=>exact ⟨(y325),(wrap64 (x4_1+1)),mq_,H',⟨by have:=HK1.out;omega⟩,⟨mo_ HO_3.out⟩,⟨mb_ HB⟩⟩
 ·rw [if_neg c6] at H;have c6b0:=cf_ c6;clear c6;obtain rfl:=oi_ H;go_wp2;go_ret;exact ⟨_,me_,mo_ HO_3.out,mb_ HB⟩
def laws_toIntS.l0:Nat→List Int→List Int→Int→Option (List Int)
 | 0,_,_,_=>none
 | k+1,x0,x3,x4=>if x4<(x0.length:Int) then (if 0≤x4 then (if x4<(x3.length:Int) then (laws_toIntS.l0 k x0 (x3.set (x4:Int).toNat (rd x0 x4)) (wrap64 (x4+1))) else (none)) else (none)) else (some x3)
def laws_toIntS.f (k:Nat) (l0:List Int):Option (List Int):=if 0≤(l0.length:Int) then (if ((l0.length:Int):Int).toNat≤35184372088832 then (laws_toIntS.l0 k l0 (List.replicate ((l0.length:Int):Int).toNat 0) 0) else (none)) else (none)
theorem laws_toIntS.mono_l:∀k,(∀y0 y1 y2,LeO (laws_toIntS.l0 k y0 y1 y2) (laws_toIntS.l0 (k+1) y0 y1 y2))
 | 0=>fun _ _ _ r h=>by simp [laws_toIntS.l0] at h
 | k+1=>by
  have ih0:=laws_toIntS.mono_l k
  ·intro y0 y1 y2;unfold laws_toIntS.l0
   repeat' with_reducible first|apply ih0|apply LeO.refl|apply LeO.none|refine LeO.ite ?_ ?_|refine LeO.bind ?_ (fun _=>?_)
theorem laws_toIntS.mono:∀a0 k,LeO (laws_toIntS.f k a0) (laws_toIntS.f (k+1) a0):=by
 intro a0 k;have ih0:=laws_toIntS.mono_l k;unfold laws_toIntS.f
 repeat' with_reducible first|apply ih0|apply LeO.refl|apply LeO.none|refine LeO.ite ?_ ?_|refine LeO.bind ?_ (fun _=>?_)
set_option maxHeartbeats 8000000 in
set_option maxRecDepth 100000 in
theorem laws_toIntS.calls (k:Nat) (A0:Option Addr) (c0:Nat) (l0:List Int) (r:List Int) (w:World) (hr0:Kd.C (Kd.int .i64) w A0 l0.length l0) (hc0:l0.length≤c0) (h:laws_toIntS.f k l0=some r):
  Calls Tryz.prog 27 #[.slice A0 l0.length c0] w fun e w'=>∃v0_:Value,e=.returned (v0_)∧Kd.R (Kd.int .i64) 3 w' w.heap.size (fun _=>True) v0_ r∧Below w.heap.size w w':=by
 have HR0:=a_ hr0;have HC0:=a_ hc0;clear hr0 hc0;have HB:=a_ (Below.refl w.heap.size w);have H:=h;unfold laws_toIntS.f at H
 clear h;by_cases c2:0≤(l0.length:Int)
 case neg=>
  rw [if_neg c2] at H;cases H
 rw [if_pos c2] at H;have c2b0:=eq_true c2;have c2b1:=ct_ c2;clear c2;by_cases c3:((l0.length:Int):Int).toNat≤35184372088832
 case neg=>
  rw [if_neg c3] at H;cases H
 rw [if_pos c3] at H;have c3b0:=eq_true c3;have c3b1:=ct_ c3;clear c3;obtain ⟨y326,hy326⟩:∃y_:List Int,y_=(List.replicate ((l0.length:Int):Int).toNat 0):=⟨_,rfl⟩;rw [←hy326] at H;(try rw [Option.bind_some] at H);have Ny326:=a_ hy326;clear hy326;have H':=a_ H;clear H;go_enter Tryz.func27,Tryz.ntmps27;go_wp2_with (first|((with_reducible refine gate_dst (N:=7) rfl ?_);refine Kd.R_make (Kd.int .i64) _ 3 rfl (N:=7) rfl 23 _ _ rfl (l0.length:Int) rfl rfl Tryz.underlying23 (.int .i64 0) 8 info3 rfl (by decide) (by omega) 0 (ok:=fun _=>True) (okp:=fun _=>True) rfl (fun _ hk=>hk) trivial (md_) (Nat.le_trans (Nat.mul_le_mul_right _ (md_:(l0.length:Int).toNat≤35184372088832)) (by omega)) (Below.refl _ _) (Nat.le_refl _) ?_;intro v327 wx ho5 hb hg_ hnew_;clear hg_ hnew_;(first|rw [←Ny326.out] at ho5|(simp only [Int.reduceToNat] at ho5;rw [←Ny326.out] at ho5));have HO328:=a_ (Kd.R_lower ho5 (below_size (mb_ HB)));replace HB:=ms_ HB hb;clear hb ho5));go_loopg [4] k (fun kq v4 w'=>∃(x3_1:List Int) (x4_1:Int),v4=.int .i64 x4_1∧Aside0 (laws_toIntS.l0 kq l0 x3_1 x4_1=some r)∧Aside0 (kq≤k)∧Aside0 (Kd.R (Kd.int .i64) 3 w' w.heap.size (fun _=>True) v327 x3_1)∧Aside0 (Below w.heap.size w w'))
 case atStart=>exact ⟨(y326),(0),mq_,H',⟨Nat.le_refl _⟩,⟨mo_ HO328.out⟩,⟨mb_ HB⟩⟩
 clear H';(try clear c2b0);(try clear c2b1);(try clear c3b0);(try clear c3b1);obtain ⟨x3_1,x4_1,rfl,HA,HK1,HO_3,HB⟩:=hrel;obtain _|k1:=gk
 ·exact absurd HA.out (by simp [laws_toIntS.l0])
 have H:=HA.out;clear HA;simp only [laws_toIntS.l0] at H;by_cases c6:x4_1<(l0.length:Int)
 ·rw [if_pos c6] at H;have c6b0:=ct_ c6;clear c6;by_cases c7:0≤x4_1
  case neg=>
   rw [if_neg c7] at H;cases H
  rw [if_pos c7] at H;have c7b0:=ct_ c7;clear c7;by_cases c8:x4_1<(x3_1.length:Int)
  case neg=>
   rw [if_neg c8] at H;cases H
  rw [if_pos c8] at H;have c8b0:=ct_ c8;clear c8;obtain ⟨y330,hy330⟩:∃y_:List Int,y_=(x3_1.set (x4_1:Int).toNat (rd l0 x4_1)):=⟨_,rfl⟩;rw [←hy330] at H;(try rw [Option.bind_some] at H);have Ny330:=a_ hy330;clear hy330;have H':=a_ H;clear H;have p329:0≤(x4_1:Int):=md_
  have q329:x4_1<(l0.length:Int):=md_
  obtain ⟨ad329,e329,hx329_0⟩:=Kd.at_int HR0.out x4_1 p329 q329;cases e329;replace hx329_0:=mx_ HB hx329_0;replace p329:=eq_true p329;replace q329:=eq_true q329;have p9:0≤(x4_1:Int):=md_
  have q9:(x4_1:Int)<((x3_1.length:Int):Int):=md_
  obtain ⟨go9,co9,eo9,gb9,gl9,cl9,HG9⟩:=Kd.R_form HO_3.out (by omega);(first|cases eo9|(injection eo9 with ea_ en_ ec_;(first|subst ea_|(injection ea_ with ea_;subst ea_));subst ec_;clear en_));have GB9:=a_ gb9;have GG9:=a_ HG9;clear gb9 gl9 HG9;obtain ⟨hx9_0,hf9_0⟩:=Kd.R_celln 0 HO_3.out (x4_1:Int) p9 q9;replace p9:=eq_true p9;replace q9:=eq_true q9;have HP10:=Kd.R_putg HO_3.out (x4_1:Int) (rd l0 x4_1);go_wp2_with (first|((with_reducible refine gate_store (t:=3) (p:=20) rfl ?_);refine store_event (t:=3) (p:=20) (v:=?vo_w11) (w1:=(wr.setCell ⟨go9,(x4_1:Int).toNat,none⟩ (.int .i64 (rd l0 x4_1)))) ?hg ?ho ?hn ?hr ?_;(case ho=>rfl);(case hg=>rfl);(case hn=>rfl);(case hr=>first|(go_simp;done)|(go_simp;rfl));intro wx hw;have hg:wr.grownBy wx (some go9):=(by rw [hw];exact HP10.2);have hp_:Kd.R (Kd.int .i64) 3 wx w.heap.size (fun _=>True) (.slice (some ⟨go9,0,none⟩) x3_1.length co9) y330:=(by rw [hw,Ny330.out];exact HP10.1);clear HP10;replace HO_3:=a_ (hp_);replace HB:=a_ ((by rw [hw];exact below_set (HB.out) GB9.out:Below w.heap.size w wx));clear hg hw hp_));go_roundg k1
  case measure=>
   have:=HK1.out
   omega
  case rel=>exact ⟨(y330),(wrap64 (x4_1+1)),mq_,H',⟨by have:=HK1.out;omega⟩,⟨mo_ HO_3.out⟩,⟨mb_ HB⟩⟩
 ·rw [if_neg c6] at H;have c6b0:=cf_ c6;clear c6;obtain rfl:=oi_ H;go_wp2;go_ret;exact ⟨_,me_,mo_ HO_3.out,mb_ HB⟩
def laws_toAction.f (k:Nat) (a0_0:Int) (a0_1:Int) (a0_2:ByteArray) (l0_3:List Int):Option (Int×Int×ByteArray×List Int):=(laws_toIntS.f k l0_3).bind fun t334=>(some (a0_0,a0_1,a0_2,t334))
theorem laws_toAction.mono:∀a0 a1 a2 a3 k,LeO (laws_toAction.f k a0 a1 a2 a3) (laws_toAction.f (k+1) a0 a1 a2 a3):=by
 intro a0 a1 a2 a3 k;unfold laws_toAction.f
 repeat' with_reducible first|apply laws_toIntS.mono|apply LeO.refl|apply LeO.none|refine LeO.ite ?_ ?_|refine LeO.bind ?_ (fun _=>?_)
set_option maxHeartbeats 8000000 in
set_option maxRecDepth 100000 in
theorem laws_toAction.calls (k:Nat) (a0_0:Int) (a0_1:Int) (a0_2:ByteArray) (A0_3:Option Addr) (c0_3:Nat) (l0_3:List Int) (r1:Int) (r2:Int) (r3:ByteArray) (r4:List Int) (w:World) (hr0_3:Kd.C (Kd.int .i64) w A0_3 l0_3.length l0_3) (hc0_3:l0_3.length≤c0_3) (h:laws_toAction.f k a0_0 a0_1 a0_2 l0_3=some (r1,r2,r3,r4)):
  Calls Tryz.prog 74 #[.agg #[.int .i64 a0_0,.int .i64 a0_1,.string a0_2,.slice A0_3 l0_3.length c0_3]] w fun e w'=>∃v3_:Value,e=.returned (.agg #[.int .i64 r1,.int .i64 r2,.string r3,v3_])∧Kd.R (Kd.int .i64) 3 w' w.heap.size (fun _=>True) v3_ r4∧Below w.heap.size w w':=by
 have hu118:=Tryz.underlying118;have hu108:=Tryz.underlying108;have HR0_3:=a_ hr0_3;have HC0_3:=a_ hc0_3;clear hr0_3 hc0_3;have HB:=a_ (Below.refl w.heap.size w);have H:((laws_toIntS.f k l0_3).bind fun t334=>(some (a0_0,a0_1,a0_2,t334)))=some (r1,r2,r3,r4):=h
 clear h;obtain ⟨t334,A2,H⟩:=ob_ H;simp only [Option.some.injEq,Prod.mk.injEq] at H;obtain ⟨rfl,rfl,rfl,rfl⟩:=H;go_enter Tryz.func74,Tryz.ntmps74;go_wp2_with (first|((with_reducible refine gate_dst (N:=1) rfl ?_);refine bh_ 1 #[.int .i64 a0_0,.int .i64 a0_1,.string a0_2,.slice A0_3 l0_3.length c0_3] 118 HB ?_;intro gb331 hg wx BK331 GE331 hb;replace HB:=ms_ HB hb;clear hb hg)|((with_reducible refine gate_dst (N:=2) rfl ?_);refine bh_ 2 #[.int .i64 0,.int .i64 0,.string (⟨#[]⟩:ByteArray),.slice none 0 0] 108 HB ?_;intro gb332 hg wx BK332 GE332 hb;obtain ⟨NB331_332,NB332_331⟩:=mn_ BK331 hg;replace BK331:=mk_ BK331 hb;replace HB:=ms_ HB hb;clear hb hg)|((with_reducible refine gate_dst (N:=3) rfl ?_);refine bh_ 3 #[.int .i64 0,.int .i64 0,.string (⟨#[]⟩:ByteArray),.slice none 0 0] 108 HB ?_;intro gb333 hg wx BK333 GE333 hb;obtain ⟨NB331_333,NB333_331⟩:=mn_ BK331 hg;obtain ⟨NB332_333,NB333_332⟩:=mn_ BK332 hg;replace BK331:=mk_ BK331 hb;replace BK332:=mk_ BK332 hb;replace HB:=ms_ HB hb;clear hb hg;have nNB331_332:=NB331_332.out;have nNB332_331:=NB332_331.out;have nNB331_333:=NB331_333.out;have nNB333_331:=NB333_331.out;replace hz331:=cz4 BK331;have nNB333_332:=NB333_332.out;have nNB332_333:=NB332_333.out;replace hz333:=cz4 BK333)|((with_reducible refine gate_callee (f:=27) rfl ?_);refine goesL_ (some 15) rfl rfl Tryz.func27 (by kernel_rfl) rfl #[.slice A0_3 l0_3.length c0_3] rfl mw_ ?_;(with_reducible refine (laws_toIntS.calls k _ _ l0_3 t334 _ ?side1 HC0_3.out A2.out).mono ?_);(case side1=>exact Kd.C_below HR0_3.out (mb_ HB));rintro e wx ⟨v335,rfl,ho0,hb⟩;refine ⟨_,rfl,?_⟩;have HO336:=a_ (Kd.R_lower ho0 (below_size (mb_ HB)));replace BK331:=mk_ BK331 hb;replace BK332:=mk_ BK332 hb;replace BK333:=a_ (blk_below (g:=gb333) (o:=.cells #[.int .i64 a0_0,.int .i64 a0_1,.string a0_2,.slice none 0 0] 108 (0,0)) (mp_ BK333) hb);replace HB:=ms_ HB hb;(try clear hb ho0);obtain ⟨Ao12,co12,eo12⟩:=Kd.R_slice HO336.out;subst eo12;replace hz333:=cz4 BK333;replace hz332:=cz4 BK332));refine bodyPost_ret (results_cell_row rfl _ _ gb332 108 #[.int .i64 a0_0,.int .i64 a0_1,.string a0_2,.slice Ao12 t334.length co12] (0,0) _ rfl (mp_ BK332) Tryz.underlying108 rfl (by kernel_rfl)) rfl ?_;exact ⟨_,me_,mo_ (Kd.R_mono (Kd.R_far (p:=⟨gb332,3,none⟩) (Kd.R_far (p:=⟨gb332,2,none⟩) (Kd.R_far (p:=⟨gb332,1,none⟩) (Kd.R_far (p:=⟨gb332,0,none⟩) (Kd.R_far (p:=⟨gb333,3,none⟩) (Kd.R_types (Kd.R_types HO336.out BK333.out (by decide)) BK332.out (by decide)) (fun _ hk=>hk.1.2) (.slice Ao12 t334.length co12)) (fun _ hk=>hk.2) (.int .i64 a0_0)) (fun _ hk=>hk.2) (.int .i64 a0_1)) (fun _ hk=>hk.2) (.string a0_2)) (fun _ hk=>hk.2) (.slice Ao12 t334.length co12)) (fun _ hk=>trivial)),mb_ HB⟩
end Go.Proofs.YtejjlkbbnhpbdaaGreat.P
namespace Go.Proofs.YtejjlkbbnhpbdaaGreat.P
open Go.Proofs.YtejjlkbbnhpbdaaGreatX
open Go.RowKit Go.Proofs.YtejjlkbbnhpbdaaGreatW.PrintWords Go.Proofs.YtejjlkbbnhpbdaaGreatW.PrintLast Go.Proofs.YtejjlkbbnhpbdaaGreatW.PrintMore
attribute [local go_sem] max2_int min2_int max_two min_two max_three min_three max_four min_four
set_option linter.unusedVariables false
set_option linter.unusedSimpArgs false
def laws_toActionS.l0:Nat→List (S118)→List (S108)→Int→Option ((List (S108)))
 | 0,_,_,_=>none
 | k+1,x0,x3,x4=>if x4<(x0.length:Int) then (if 0≤x4 then ((laws_toAction.f k ((rd_T118 x0 x4).f0) ((rd_T118 x0 x4).f1) ((rd_T118 x0 x4).f2) ((rd_T118 x0 x4).f3)).bind fun bt341=>(if x4<(x3.length:Int) then (laws_toActionS.l0 k x0 (x3.set (x4:Int).toNat (⟨bt341.1,bt341.2.1,bt341.2.2.1,bt341.2.2.2⟩:S108)) (wrap64 (x4+1))) else (none))) else (none)) else (some x3)
def laws_toActionS.f (k:Nat) (l0:List (S118)):Option ((List (S108))):=if 0≤(l0.length:Int) then (if ((l0.length:Int):Int).toNat≤5026338869833 then (laws_toActionS.l0 k l0 (List.replicate ((l0.length:Int):Int).toNat z108) 0) else (none)) else (none)
theorem laws_toActionS.mono_l:∀k,(∀y0 y1 y2,LeO (laws_toActionS.l0 k y0 y1 y2) (laws_toActionS.l0 (k+1) y0 y1 y2))
 | 0=>fun _ _ _ r h=>by simp [laws_toActionS.l0] at h
 | k+1=>by
  have ih0:=laws_toActionS.mono_l k
  ·intro y0 y1 y2;unfold laws_toActionS.l0
   repeat' with_reducible first|apply ih0|apply laws_toAction.mono|apply LeO.refl|apply LeO.none|refine LeO.ite ?_ ?_|refine LeO.bind ?_ (fun _=>?_)
theorem laws_toActionS.mono:∀a0 k,LeO (laws_toActionS.f k a0) (laws_toActionS.f (k+1) a0):=by
 intro a0 k;have ih0:=laws_toActionS.mono_l k;unfold laws_toActionS.f
 repeat' with_reducible first|apply ih0|apply laws_toAction.mono|apply LeO.refl|apply LeO.none|refine LeO.ite ?_ ?_|refine LeO.bind ?_ (fun _=>?_)
set_option maxHeartbeats 8000000 in
set_option maxRecDepth 100000 in
theorem laws_toActionS.calls (k:Nat) (A0:Option Addr) (c0:Nat) (l0:List (S118)) (r:List (S108)) (w:World) (hr0:Kd.C k118 w A0 l0.length l0) (hc0:l0.length≤c0) (h:laws_toActionS.f k l0=some r):
  Calls Tryz.prog 54 #[.slice A0 l0.length c0] w fun e w'=>∃v0_:Value,e=.returned (v0_)∧Kd.S k108 108 w' w.heap.size (fun _=>True) v0_ r∧Below w.heap.size w w':=by
 have hu118:=Tryz.underlying118;have hu108:=Tryz.underlying108;have HR0:=a_ hr0;have HC0:=a_ hc0;clear hr0 hc0;have HB:=a_ (Below.refl w.heap.size w);have H:=h;unfold laws_toActionS.f at H
 clear h;by_cases c2:0≤(l0.length:Int)
 case neg=>
  rw [if_neg c2] at H;cases H
 rw [if_pos c2] at H;have c2b0:=eq_true c2;have c2b1:=ct_ c2;clear c2;by_cases c3:((l0.length:Int):Int).toNat≤5026338869833
 case neg=>
  rw [if_neg c3] at H;cases H
 rw [if_pos c3] at H;have c3b0:=eq_true c3;have c3b1:=ct_ c3;clear c3;obtain ⟨y337,hy337⟩:∃y_:List (S108),y_=(List.replicate ((l0.length:Int):Int).toNat z108):=⟨_,rfl⟩;rw [←hy337] at H;(try rw [Option.bind_some] at H);have Ny337:=a_ hy337;clear hy337;have H':=a_ H;clear H;go_enter Tryz.func54,Tryz.ntmps54;go_wp2_with (first|((with_reducible refine gate_dst (N:=7) rfl ?_);refine Kd.S_make k108 _ 108 rfl (N:=7) rfl 56 _ _ rfl (l0.length:Int) rfl rfl Tryz.underlying56 (.agg #[(.int .i64 0),(.int .i64 0),(.string ⟨#[]⟩),(.slice none 0 0)]) 56 info108 rfl (by decide) (by omega) z108 (ok:=fun _=>True) (okp:=fun _=>True) (k108_mkM _ _ _ z108 (Kd.R_nil _ _ _ _ _)) (fun _ hk=>hk) trivial (md_) (Nat.le_trans (Nat.mul_le_mul_right _ (md_:(l0.length:Int).toNat≤5026338869833)) (by omega)) (Below.refl _ _) (Nat.le_refl _) ?_;intro v338 wx ho5 hb hg_ hnew_;clear hg_ hnew_;(first|rw [←Ny337.out] at ho5|(simp only [Int.reduceToNat] at ho5;rw [←Ny337.out] at ho5));have HO339:=a_ (Kd.S_lower ho5 (below_size (mb_ HB)));replace HB:=ms_ HB hb;clear hb ho5));go_loopg [4] k (fun kq v4 w'=>∃(x3_1:List (S108)) (x4_1:Int),v4=.int .i64 x4_1∧Aside0 (laws_toActionS.l0 kq l0 x3_1 x4_1=some r)∧Aside0 (kq≤k)∧Aside0 (Kd.S k108 108 w' w.heap.size (fun _=>True) v338 x3_1)∧Aside0 (Below w.heap.size w w'))
 case atStart=>exact ⟨(y337),(0),mq_,H',⟨Nat.le_refl _⟩,⟨by (with_reducible repeat (first|apply Kd.S_alloc|apply Kd.S_drewN|apply Kd.S_drew));exact HO339.out⟩,⟨mb_ HB⟩⟩
 clear H';(try clear c2b0);(try clear c2b1);(try clear c3b0);(try clear c3b1);obtain ⟨x3_1,x4_1,rfl,HA,HK1,HO_3,HB⟩:=hrel;obtain _|k1:=gk
 ·exact absurd HA.out (by simp [laws_toActionS.l0])
 have H:=HA.out;clear HA;simp only [laws_toActionS.l0] at H;by_cases c6:x4_1<(l0.length:Int)
 ·rw [if_pos c6] at H;have c6b0:=ct_ c6;clear c6;by_cases c7:0≤x4_1
  case neg=>
   rw [if_neg c7] at H;cases H
  rw [if_pos c7] at H;have c7b0:=ct_ c7;clear c7;obtain ⟨⟨t341,t342,t343,t344⟩,A8,H⟩:=ob_ H;by_cases c9:x4_1<(x3_1.length:Int)
  case neg=>
   rw [if_neg c9] at H;cases H
  rw [if_pos c9] at H;have c9b0:=ct_ c9;clear c9;obtain ⟨y347,hy347⟩:∃y_:List (S108),y_=(x3_1.set (x4_1:Int).toNat (⟨t341,t342,t343,t344⟩:S108)):=⟨_,rfl⟩;rw [←hy347] at H;(try rw [Option.bind_some] at H);have Ny347:=a_ hy347;clear hy347;have H':=a_ H;clear H;have p340:0≤(x4_1:Int):=md_
  have q340:x4_1<(l0.length:Int):=md_
  obtain ⟨ad340,A340_3,c340_3,e340,hx340_0,hx340_1,hx340_2,hx340_3,hl340_3,hi340_3⟩:=at_T118 HR0.out x4_1 p340 q340;cases e340;replace hx340_0:=mx_ HB hx340_0;replace hx340_1:=mx_ HB hx340_1;replace hx340_2:=mx_ HB hx340_2;replace hx340_3:=mx_ HB hx340_3;have HR340_3:=a_ hi340_3;have HC340_3:=a_ hl340_3;clear hi340_3 hl340_3;replace p340:=eq_true p340;replace q340:=eq_true q340;go_wp2_with (first|((with_reducible refine gate_callee (f:=74) rfl ?_);refine goesL_ (some 20) rfl rfl Tryz.func74 (by kernel_rfl) rfl #[.agg #[.int .i64 ((rd_T118 l0 x4_1).f0),.int .i64 ((rd_T118 l0 x4_1).f1),.string ((rd_T118 l0 x4_1).f2),.slice A340_3 ((rd_T118 l0 x4_1).f3).length c340_3]] rfl mw_ ?_;(with_reducible refine (laws_toAction.calls k1 ((rd_T118 l0 x4_1).f0) ((rd_T118 l0 x4_1).f1) ((rd_T118 l0 x4_1).f2) _ _ ((rd_T118 l0 x4_1).f3) t341 t342 t343 t344 _ ?side1 HC340_3.out A8.out).mono ?_);(case side1=>exact mt_ HR340_3 HB);rintro e w11 ⟨v345,rfl,ho0,hb⟩;refine ⟨_,rfl,?_⟩;have HO346:=a_ (Kd.R_lower ho0 (below_size (mb_ HB)));replace HO_3:=a_ (Kd.S_elder' (by (with_reducible repeat (first|apply Kd.S_alloc|apply Kd.S_drewN|apply Kd.S_drew));exact HO_3.out) (Kd.R_base ho0) hb);replace HB:=ms_ HB hb;(try clear hb ho0);have p10:0≤(x4_1:Int):=md_;have q10:(x4_1:Int)<((x3_1.length:Int):Int):=md_;obtain ⟨go10,co10,eo10,gb10,gl10,cl10,HG10⟩:=Kd.S_form HO_3.out (by omega);(first|cases eo10|(injection eo10 with ea_ en_ ec_;(first|subst ea_|(injection ea_ with ea_;subst ea_));subst ec_;clear en_));have GB10:=a_ gb10;have GG10:=a_ HG10;clear gb10 gl10 HG10;obtain ⟨_,ce10,hcl10,hM10,hcc10,hfr10,_,_⟩:=Kd.S_elem HO_3.out z108 (x4_1:Int) p10 q10;obtain ⟨ve10_3,rfl,ge10_3⟩:=k108_openM hM10;have hx10_0:w11.cell? ⟨go10,(x4_1:Int).toNat*4,none⟩=some (.int .i64 ((rd_T108 x3_1 x4_1).f0)):=hcc10 0 _ rfl;have hx10_1:w11.cell? ⟨go10,(x4_1:Int).toNat*4+1,none⟩=some (.int .i64 ((rd_T108 x3_1 x4_1).f1)):=hcc10 1 _ rfl;have hx10_2:w11.cell? ⟨go10,(x4_1:Int).toNat*4+2,none⟩=some (.string ((rd_T108 x3_1 x4_1).f2)):=hcc10 2 _ rfl;have hx10_3:w11.cell? ⟨go10,(x4_1:Int).toNat*4+3,none⟩=some (ve10_3):=hcc10 3 _ rfl;have hf10_0:w11.frozen? ⟨go10,(x4_1:Int).toNat*4,none⟩=false:=hfr10 0;have hf10_1:w11.frozen? ⟨go10,(x4_1:Int).toNat*4+1,none⟩=false:=hfr10 1;have hf10_2:w11.frozen? ⟨go10,(x4_1:Int).toNat*4+2,none⟩=false:=hfr10 2;have hf10_3:w11.frozen? ⟨go10,(x4_1:Int).toNat*4+3,none⟩=false:=hfr10 3;clear hcl10 hcc10 hfr10;(try clear hM10);replace p10:=eq_true p10;replace q10:=eq_true q10;have n_:=a_ (Kd.S_mono (ok':=(fun k_=>some k_≠(v345:Value).ownBlock)) HO_3.out (fun k_ hk=>hk.2));clear HO_3;have HO_3:=n_;clear n_;have HX12:=a_ (show Kd.S k108 108 w11 w.heap.size (fun k_=>((fun _=>True)) k_∧¬((fun k_=>some k_=(v345:Value).ownBlock)) k_) (.slice (some ⟨go10,0,none⟩) x3_1.length co10) x3_1 from (by (with_reducible repeat (first|apply Kd.S_alloc|apply Kd.S_drewN|apply Kd.S_drew));exact Kd.S_mono HO_3.out (fun k_ hk=>⟨trivial,fun e_=>hk e_⟩)));obtain ⟨oki12,ce12,hcl12,hM12,hcc12,hfr12,hoki12,hH12⟩:=Kd.S_elem HX12.out z108 (x4_1:Int) (md_) (by have h_:(x4_1:Int)<((x3_1.length:Int):Int):=md_;first|exact h_|(have e_:=(Kd.S_reads' HO_3.out).1;omega)|simpa using h_);obtain ⟨ve12_3,rfl,ge12_3⟩:=k108_openM hM12;have HP12:=Kd.S_seg hH12 (md_) (by have h_:(x4_1:Int)<((x3_1.length:Int):Int):=md_;first|exact h_|(have e_:=(Kd.S_reads' HO_3.out).1;omega)|simpa using h_) (seg:=[.int .i64 t341,.int .i64 t342,.string t343,v345]) (j:=0) (show 4≤4 from by decide) (x':=(⟨t341,t342,t343,t344⟩:S108)) (k108_mkM _ _ _ (⟨t341,t342,t343,t344⟩:S108) (Kd.R_mono (Kd.R_tight rfl (Kd.R_mono (ok':=fun k_=>((fun _=>True)) k_∧k_≠go10) (Kd.R_apart' (HO346.out) (Kd.S_typed HO_3.out) (by decide)) (fun k_ hk=>⟨trivial,fun e_=>(hk.2) (by rw [e_];rfl)⟩))) (fun _ h_=>Or.inr (h_)))) (fun _ hk=>hk) (fun k_ hk_=>((Kd.R_mono (ok':=fun k_=>((fun _=>True)) k_∧k_≠go10) (Kd.R_apart' (HO346.out) (Kd.S_typed HO_3.out) (by decide)) (fun k_ hk=>⟨trivial,fun e_=>(hk.2) (by rw [e_];rfl)⟩))).1 k_ hk_.symm);have hx12_0:=hcc12 0 _ rfl;(try simp only [show (k108).sz=4 from rfl,Nat.mul_one,Nat.add_zero] at hx12_0);have hf12_0:=hfr12 0;(try simp only [show (k108).sz=4 from rfl,Nat.mul_one,Nat.add_zero] at hf12_0);have hx12_1:=hcc12 1 _ rfl;(try simp only [show (k108).sz=4 from rfl,Nat.mul_one,Nat.add_zero] at hx12_1);have hf12_1:=hfr12 1;(try simp only [show (k108).sz=4 from rfl,Nat.mul_one,Nat.add_zero] at hf12_1);have hx12_2:=hcc12 2 _ rfl;(try simp only [show (k108).sz=4 from rfl,Nat.mul_one,Nat.add_zero] at hx12_2);have hf12_2:=hfr12 2;(try simp only [show (k108).sz=4 from rfl,Nat.mul_one,Nat.add_zero] at hf12_2);have hx12_3:=hcc12 3 _ rfl;(try simp only [show (k108).sz=4 from rfl,Nat.mul_one,Nat.add_zero] at hx12_3);have hf12_3:=hfr12 3;(try simp only [show (k108).sz=4 from rfl,Nat.mul_one,Nat.add_zero] at hf12_3);clear hcl12 hcc12 hfr12 hoki12 hH12;(try clear hM12))|((with_reducible refine gate_store (t:=108) (p:=21) rfl ?_);refine store_event (t:=108) (p:=21) (v:=?vo_w13) (w1:=((((w11.setCell ⟨go10,(x4_1:Int).toNat*4,none⟩ (.int .i64 t341)).setCell ⟨go10,(x4_1:Int).toNat*4+1,none⟩ (.int .i64 t342)).setCell ⟨go10,(x4_1:Int).toNat*4+2,none⟩ (.string t343)).setCell ⟨go10,(x4_1:Int).toNat*4+3,none⟩ (v345))) ?hg ?ho ?hn ?hr ?_;(case ho=>rfl);(case hg=>rfl);(case hn=>rfl);(case hr=>first|(go_simp;done)|(go_simp;rfl)|((obtain ⟨As0_,cs0_,es0_⟩:=(by first|exact Kd.R_slice (Kd.S_R (Aside0.out (by with_reducible assumption:Aside0 (Kd.S _ _ _ _ _ v345 _))))|exact Kd.R_slice (Aside0.out (by with_reducible assumption:Aside0 (Kd.R _ _ _ _ _ v345 _)))|exact Kd.R_slice (Aside0.out ‹Aside0 (Kd.R _ _ _ _ _ v345 _)›):∃A_ c_,v345=Value.slice A_ _ c_));subst es0_;go_simp;done)|((obtain ⟨As0_,cs0_,es0_⟩:=(by first|exact Kd.R_slice (Kd.S_R (Aside0.out (by with_reducible assumption:Aside0 (Kd.S _ _ _ _ _ v345 _))))|exact Kd.R_slice (Aside0.out (by with_reducible assumption:Aside0 (Kd.R _ _ _ _ _ v345 _)))|exact Kd.R_slice (Aside0.out ‹Aside0 (Kd.R _ _ _ _ _ v345 _)›):∃A_ c_,v345=Value.slice A_ _ c_));subst es0_;go_simp;rfl));intro wx hw;have hg:w11.grownBy wx (some go10):=(by rw [hw];exact HP12.2);have hp_:Kd.S k108 108 wx w.heap.size (fun _=>True) (.slice (some ⟨go10,0,none⟩) x3_1.length co10) y347:=(by rw [hw,Ny347.out];exact HP12.1);clear HP12;replace HO_3:=a_ (hp_);replace HB:=a_ ((by rw [hw];exact below_set (below_set (below_set (below_set (HB.out) GB10.out) GB10.out) GB10.out) GB10.out:Below w.heap.size w wx));clear HO346;clear hg hw hp_))
  go_roundg k1
  case measure=>
   have:=HK1.out
   omega
  case rel=>exact ⟨(y347),(wrap64 (x4_1+1)),mq_,H',⟨by have:=HK1.out;omega⟩,⟨by (with_reducible repeat (first|apply Kd.S_alloc|apply Kd.S_drewN|apply Kd.S_drew));exact HO_3.out⟩,⟨mb_ HB⟩⟩
 ·rw [if_neg c6] at H;have c6b0:=cf_ c6;clear c6;obtain rfl:=oi_ H;go_wp2;go_ret;exact ⟨_,me_,by (with_reducible repeat (first|apply Kd.S_alloc|apply Kd.S_drewN|apply Kd.S_drew));exact HO_3.out,mb_ HB⟩
def laws_toRule.f (k:Nat) (a0_0:ByteArray) (a0_1:Int) (l0_2:List (S112)) (l0_3:List (S116)) (l0_4:List (S118)):Option (ByteArray×Int×(List (S101))×(List (S106))×(List (S108))):=(laws_toPatternS.f k l0_2).bind fun t351=>((laws_toExprS.f k l0_3).bind fun t354=>((laws_toActionS.f k l0_4).bind fun t357=>(some (a0_0,a0_1,t351,t354,t357))))
theorem laws_toRule.mono:∀a0 a1 a2 a3 a4 k,LeO (laws_toRule.f k a0 a1 a2 a3 a4) (laws_toRule.f (k+1) a0 a1 a2 a3 a4):=by
 intro a0 a1 a2 a3 a4 k;unfold laws_toRule.f
 repeat' with_reducible first|apply laws_toActionS.mono|apply laws_toExprS.mono|apply laws_toPatternS.mono|apply LeO.refl|apply LeO.none|refine LeO.ite ?_ ?_|refine LeO.bind ?_ (fun _=>?_)
set_option maxHeartbeats 8000000 in
set_option maxRecDepth 100000 in
theorem laws_toRule.calls (k:Nat) (a0_0:ByteArray) (a0_1:Int) (A0_2:Option Addr) (c0_2:Nat) (l0_2:List (S112)) (A0_3:Option Addr) (c0_3:Nat) (l0_3:List (S116)) (A0_4:Option Addr) (c0_4:Nat) (l0_4:List (S118)) (r1:ByteArray) (r2:Int) (r3:List (S101)) (r4:List (S106)) (r5:List (S108)) (w:World) (hr0_2:Kd.C k112 w A0_2 l0_2.length l0_2) (hc0_2:l0_2.length≤c0_2) (hr0_3:Kd.C k116 w A0_3 l0_3.length l0_3) (hc0_3:l0_3.length≤c0_3) (hr0_4:Kd.C k118 w A0_4 l0_4.length l0_4) (hc0_4:l0_4.length≤c0_4) (h:laws_toRule.f k a0_0 a0_1 l0_2 l0_3 l0_4=some (r1,r2,r3,r4,r5)):
  Calls Tryz.prog 26 #[.agg #[.string a0_0,.int .i64 a0_1,.slice A0_2 l0_2.length c0_2,.slice A0_3 l0_3.length c0_3,.slice A0_4 l0_4.length c0_4]] w fun e w'=>∃v2_ v3_ v4_:Value,e=.returned (.agg #[.string r1,.int .i64 r2,v2_,v3_,v4_])∧Kd.S k101 101 w' w.heap.size (fun _=>True) v2_ r3∧Kd.R k106 106 w' w.heap.size (fun _=>True) v3_ r4∧Kd.S k108 108 w' w.heap.size (fun _=>True) v4_ r5∧Below w.heap.size w w':=by
 have hu50:=Tryz.underlying50;have hu58:=Tryz.underlying58;have HR0_2:=a_ hr0_2;have HC0_2:=a_ hc0_2;clear hr0_2 hc0_2;have HR0_3:=a_ hr0_3;have HC0_3:=a_ hc0_3;clear hr0_3 hc0_3;have HR0_4:=a_ hr0_4;have HC0_4:=a_ hc0_4;clear hr0_4 hc0_4;have HB:=a_ (Below.refl w.heap.size w);have H:=h;unfold laws_toRule.f at H
 clear h;obtain ⟨t351,A2,H⟩:=ob_ H;obtain ⟨t354,A3,H⟩:=ob_ H;obtain ⟨t357,A4,H⟩:=ob_ H;simp only [Option.some.injEq,Prod.mk.injEq] at H;obtain ⟨rfl,rfl,rfl,rfl,rfl⟩:=H;go_enter Tryz.func26,Tryz.ntmps26;go_wp2_with (first|((with_reducible refine gate_dst (N:=1) rfl ?_);refine bh_ 1 #[.string a0_0,.int .i64 a0_1,.slice A0_2 l0_2.length c0_2,.slice A0_3 l0_3.length c0_3,.slice A0_4 l0_4.length c0_4] 50 HB ?_;intro gb348 hg wx BK348 GE348 hb;replace HB:=ms_ HB hb;clear hb hg)|((with_reducible refine gate_dst (N:=2) rfl ?_);refine bh_ 2 #[.string (⟨#[]⟩:ByteArray),.int .i64 0,.slice none 0 0,.slice none 0 0,.slice none 0 0] 58 HB ?_;intro gb349 hg wx BK349 GE349 hb;obtain ⟨NB348_349,NB349_348⟩:=mn_ BK348 hg;replace BK348:=mk_ BK348 hb;replace HB:=ms_ HB hb;clear hb hg)|((with_reducible refine gate_dst (N:=3) rfl ?_);refine bh_ 3 #[.string (⟨#[]⟩:ByteArray),.int .i64 0,.slice none 0 0,.slice none 0 0,.slice none 0 0] 58 HB ?_;intro gb350 hg wx BK350 GE350 hb;obtain ⟨NB348_350,NB350_348⟩:=mn_ BK348 hg;obtain ⟨NB349_350,NB350_349⟩:=mn_ BK349 hg;replace BK348:=mk_ BK348 hb;replace BK349:=mk_ BK349 hb;replace HB:=ms_ HB hb;clear hb hg;have nNB348_349:=NB348_349.out;have nNB349_348:=NB349_348.out;have nNB348_350:=NB348_350.out;have nNB350_348:=NB350_348.out;replace hz348:=cz5 BK348;have nNB350_349:=NB350_349.out;have nNB349_350:=NB349_350.out;replace hz350:=cz5 BK350)|((with_reducible refine gate_callee (f:=52) rfl ?_);refine goesL_ (some 12) rfl rfl Tryz.func52 (by kernel_rfl) rfl #[.slice A0_2 l0_2.length c0_2] rfl mw_ ?_;(with_reducible refine (laws_toPatternS.calls k _ _ l0_2 t351 _ ?side1 HC0_2.out A2.out).mono ?_);(case side1=>exact Kd.C_below HR0_2.out (mb_ HB));rintro e wx ⟨v352,rfl,ho0,hb⟩;refine ⟨_,rfl,?_⟩;have HO353:=a_ (Kd.S_lower ho0 (below_size (mb_ HB)));replace BK348:=mk_ BK348 hb;replace BK349:=mk_ BK349 hb;replace BK350:=a_ (blk_below (g:=gb350) (o:=.cells #[.string a0_0,.int .i64 a0_1,.slice none 0 0,.slice none 0 0,.slice none 0 0] 58 (0,0)) (mp_ BK350) hb);replace HB:=ms_ HB hb;(try clear hb ho0);obtain ⟨Ao14,co14,eo14⟩:=Kd.S_slice HO353.out;subst eo14;replace hz350:=cz5 BK350;replace hz348:=cz5 BK348)|((with_reducible refine gate_callee (f:=53) rfl ?_);refine goesL_ (some 16) rfl rfl Tryz.func53 (by kernel_rfl) rfl #[.slice A0_3 l0_3.length c0_3] rfl mw_ ?_;(with_reducible refine (laws_toExprS.calls k _ _ l0_3 t354 _ ?side1 HC0_3.out A3.out).mono ?_);(case side1=>exact Kd.C_below HR0_3.out (mb_ HB));rintro e wx ⟨v355,rfl,ho0,hb⟩;refine ⟨_,rfl,?_⟩;have HO356:=a_ (Kd.R_lower ho0 (below_size (mb_ HB)));replace HO353:=a_ (Kd.S_below (by (with_reducible repeat (first|apply Kd.S_alloc|apply Kd.S_drewN|apply Kd.S_drew));exact (Kd.S_mono (Kd.S_far (p:=⟨gb350,2,none⟩) (Kd.S_types HO353.out BK350.out (by decide)) (fun _ hk=>hk.2) (.slice Ao14 t351.length co14)) (fun _ h_=>h_.1))) hb);replace BK348:=mk_ BK348 hb;replace BK349:=mk_ BK349 hb;replace BK350:=a_ (blk_below (g:=gb350) (o:=.cells #[.string a0_0,.int .i64 a0_1,.slice Ao14 t351.length co14,.slice none 0 0,.slice none 0 0] 58 (0,0)) (mp_ BK350) hb);replace HB:=ms_ HB hb;(try clear hb ho0);obtain ⟨Ao18,co18,eo18⟩:=Kd.R_slice HO356.out;subst eo18;replace hz350:=cz5 BK350;replace hz348:=cz5 BK348)|((with_reducible refine gate_callee (f:=54) rfl ?_);refine goesL_ (some 20) rfl rfl Tryz.func54 (by kernel_rfl) rfl #[.slice A0_4 l0_4.length c0_4] rfl mw_ ?_;(with_reducible refine (laws_toActionS.calls k _ _ l0_4 t357 _ ?side1 HC0_4.out A4.out).mono ?_);(case side1=>exact Kd.C_below HR0_4.out (mb_ HB));rintro e wx ⟨v358,rfl,ho0,hb⟩;refine ⟨_,rfl,?_⟩;have HO359:=a_ (Kd.S_lower ho0 (below_size (mb_ HB)));replace HO353:=a_ (Kd.S_below (by (with_reducible repeat (first|apply Kd.S_alloc|apply Kd.S_drewN|apply Kd.S_drew));exact (Kd.S_mono (Kd.S_far (p:=⟨gb350,3,none⟩) (Kd.S_types HO353.out BK350.out (by decide)) (fun _ hk=>hk.2) (.slice Ao18 t354.length co18)) (fun _ h_=>h_.1))) hb);replace HO356:=a_ (Kd.R_below ((Kd.R_mono (mf_ HO356 BK350) (fun _ h_=>h_.1))) hb);replace BK348:=mk_ BK348 hb;replace BK349:=mk_ BK349 hb;replace BK350:=a_ (blk_below (g:=gb350) (o:=.cells #[.string a0_0,.int .i64 a0_1,.slice Ao14 t351.length co14,.slice Ao18 t354.length co18,.slice none 0 0] 58 (0,0)) (mp_ BK350) hb);replace HB:=ms_ HB hb;(try clear hb ho0);obtain ⟨Ao22,co22,eo22⟩:=Kd.S_slice HO359.out;subst eo22;replace hz350:=cz5 BK350;replace hz349:=cz5 BK349))
 refine bodyPost_ret (results_cell_row rfl _ _ gb349 58 #[.string a0_0,.int .i64 a0_1,.slice Ao14 t351.length co14,.slice Ao18 t354.length co18,.slice Ao22 t357.length co22] (0,0) _ rfl (mp_ BK349) Tryz.underlying58 rfl (by kernel_rfl)) rfl ?_;exact ⟨_,_,_,me_,by (with_reducible repeat (first|apply Kd.S_alloc|apply Kd.S_drewN|apply Kd.S_drew));exact Kd.S_mono (Kd.S_far (p:=⟨gb349,4,none⟩) (Kd.S_far (p:=⟨gb349,3,none⟩) (Kd.S_far (p:=⟨gb349,2,none⟩) (Kd.S_far (p:=⟨gb349,1,none⟩) (Kd.S_far (p:=⟨gb349,0,none⟩) (Kd.S_far (p:=⟨gb350,4,none⟩) (Kd.S_types (Kd.S_types HO353.out BK350.out (by decide)) BK349.out (by decide)) (fun _ hk=>hk.1.2) (.slice Ao22 t357.length co22)) (fun _ hk=>hk.2) (.string a0_0)) (fun _ hk=>hk.2) (.int .i64 a0_1)) (fun _ hk=>hk.2) (.slice Ao14 t351.length co14)) (fun _ hk=>hk.2) (.slice Ao18 t354.length co18)) (fun _ hk=>hk.2) (.slice Ao22 t357.length co22)) (fun _ hk=>trivial),mo_ (Kd.R_mono (Kd.R_far (p:=⟨gb349,4,none⟩) (Kd.R_far (p:=⟨gb349,3,none⟩) (Kd.R_far (p:=⟨gb349,2,none⟩) (Kd.R_far (p:=⟨gb349,1,none⟩) (Kd.R_far (p:=⟨gb349,0,none⟩) (Kd.R_far (p:=⟨gb350,4,none⟩) (Kd.R_types (Kd.R_types HO356.out BK350.out (by decide)) BK349.out (by decide)) (fun _ hk=>hk.1.2) (.slice Ao22 t357.length co22)) (fun _ hk=>hk.2) (.string a0_0)) (fun _ hk=>hk.2) (.int .i64 a0_1)) (fun _ hk=>hk.2) (.slice Ao14 t351.length co14)) (fun _ hk=>hk.2) (.slice Ao18 t354.length co18)) (fun _ hk=>hk.2) (.slice Ao22 t357.length co22)) (fun _ hk=>trivial)),by (with_reducible repeat (first|apply Kd.S_alloc|apply Kd.S_drewN|apply Kd.S_drew));exact Kd.S_mono (Kd.S_far (p:=⟨gb349,4,none⟩) (Kd.S_far (p:=⟨gb349,3,none⟩) (Kd.S_far (p:=⟨gb349,2,none⟩) (Kd.S_far (p:=⟨gb349,1,none⟩) (Kd.S_far (p:=⟨gb349,0,none⟩) (Kd.S_far (p:=⟨gb350,4,none⟩) (Kd.S_types (Kd.S_types HO359.out BK350.out (by decide)) BK349.out (by decide)) (fun _ hk=>hk.1.2) (.slice Ao22 t357.length co22)) (fun _ hk=>hk.2) (.string a0_0)) (fun _ hk=>hk.2) (.int .i64 a0_1)) (fun _ hk=>hk.2) (.slice Ao14 t351.length co14)) (fun _ hk=>hk.2) (.slice Ao18 t354.length co18)) (fun _ hk=>hk.2) (.slice Ao22 t357.length co22)) (fun _ hk=>trivial),mb_ HB⟩
def laws_toRuleS.l0:Nat→List (S50)→List (S58)→Int→Option ((List (S58)))
 | 0,_,_,_=>none
 | k+1,x0,x3,x4=>if x4<(x0.length:Int) then (if 0≤x4 then ((laws_toRule.f k ((rd_T50 x0 x4).f0) ((rd_T50 x0 x4).f1) ((rd_T50 x0 x4).f2) ((rd_T50 x0 x4).f3) ((rd_T50 x0 x4).f4)).bind fun bt364=>(if x4<(x3.length:Int) then (laws_toRuleS.l0 k x0 (x3.set (x4:Int).toNat (⟨bt364.1,bt364.2.1,bt364.2.2.1,bt364.2.2.2.1,bt364.2.2.2.2⟩:S58)) (wrap64 (x4+1))) else (none))) else (none)) else (some x3)
def laws_toRuleS.f (k:Nat) (l0:List (S50)):Option ((List (S58))):=if 0≤(l0.length:Int) then (if ((l0.length:Int):Int).toNat≤2932031007402 then (laws_toRuleS.l0 k l0 (List.replicate ((l0.length:Int):Int).toNat z58) 0) else (none)) else (none)
theorem laws_toRuleS.mono_l:∀k,(∀y0 y1 y2,LeO (laws_toRuleS.l0 k y0 y1 y2) (laws_toRuleS.l0 (k+1) y0 y1 y2))
 | 0=>fun _ _ _ r h=>by simp [laws_toRuleS.l0] at h
 | k+1=>by
  have ih0:=laws_toRuleS.mono_l k
  ·intro y0 y1 y2;unfold laws_toRuleS.l0
   repeat' with_reducible first|apply ih0|apply laws_toRule.mono|apply LeO.refl|apply LeO.none|refine LeO.ite ?_ ?_|refine LeO.bind ?_ (fun _=>?_)
theorem laws_toRuleS.mono:∀a0 k,LeO (laws_toRuleS.f k a0) (laws_toRuleS.f (k+1) a0):=by
 intro a0 k;have ih0:=laws_toRuleS.mono_l k;unfold laws_toRuleS.f
 repeat' with_reducible first|apply ih0|apply laws_toRule.mono|apply LeO.refl|apply LeO.none|refine LeO.ite ?_ ?_|refine LeO.bind ?_ (fun _=>?_)
set_option maxHeartbeats 8000000 in
set_option maxRecDepth 100000 in
theorem laws_toRuleS.calls (k:Nat) (A0:Option Addr) (c0:Nat) (l0:List (S50)) (r:List (S58)) (w:World) (hr0:Kd.C k50 w A0 l0.length l0) (hc0:l0.length≤c0) (h:laws_toRuleS.f k l0=some r):
  Calls Tryz.prog 8 #[.slice A0 l0.length c0] w fun e w'=>∃v0_:Value,e=.returned (v0_)∧Kd.R k58 58 w' w.heap.size (fun _=>True) v0_ r∧Below w.heap.size w w':=by
 have hu50:=Tryz.underlying50;have hu58:=Tryz.underlying58;have HR0:=a_ hr0;have HC0:=a_ hc0;clear hr0 hc0;have HB:=a_ (Below.refl w.heap.size w);have H:=h;unfold laws_toRuleS.f at H
 clear h;by_cases c2:0≤(l0.length:Int)
 case neg=>
  rw [if_neg c2] at H;cases H
 rw [if_pos c2] at H;have c2b0:=eq_true c2;have c2b1:=ct_ c2;clear c2;by_cases c3:((l0.length:Int):Int).toNat≤2932031007402
 case neg=>
  rw [if_neg c3] at H;cases H
 rw [if_pos c3] at H;have c3b0:=eq_true c3;have c3b1:=ct_ c3;clear c3;obtain ⟨y360,hy360⟩:∃y_:List (S58),y_=(List.replicate ((l0.length:Int):Int).toNat z58):=⟨_,rfl⟩;rw [←hy360] at H;(try rw [Option.bind_some] at H);have Ny360:=a_ hy360;clear hy360;have H':=a_ H;clear H;go_enter Tryz.func8,Tryz.ntmps8;go_wp2_with (first|((with_reducible refine gate_dst (N:=7) rfl ?_);refine Kd.R_make k58 _ 58 rfl (N:=7) rfl 29 _ _ rfl (l0.length:Int) rfl rfl Tryz.underlying29 (.agg #[(.string ⟨#[]⟩),(.int .i64 0),(.slice none 0 0),(.slice none 0 0),(.slice none 0 0)]) 96 info58 rfl (by decide) (by omega) z58 (ok:=fun _=>True) (okp:=fun _=>True) (k58_mkM _ _ _ z58 (Kd.R_nil _ _ _ _ _) (Kd.R_nil _ _ _ _ _) (Kd.R_nil _ _ _ _ _)) (fun _ hk=>hk) trivial (md_) (Nat.le_trans (Nat.mul_le_mul_right _ (md_:(l0.length:Int).toNat≤2932031007402)) (by omega)) (Below.refl _ _) (Nat.le_refl _) ?_;intro v361 wx ho5 hb hg_ hnew_;clear hg_ hnew_;(first|rw [←Ny360.out] at ho5|(simp only [Int.reduceToNat] at ho5;rw [←Ny360.out] at ho5));have HO362:=a_ (Kd.R_lower ho5 (below_size (mb_ HB)));replace HB:=ms_ HB hb;clear hb ho5));go_loopg [4] k (fun kq v4 w'=>∃(x3_1:List (S58)) (x4_1:Int),v4=.int .i64 x4_1∧Aside0 (laws_toRuleS.l0 kq l0 x3_1 x4_1=some r)∧Aside0 (kq≤k)∧Aside0 (Kd.R k58 58 w' w.heap.size (fun _=>True) v361 x3_1)∧Aside0 (Below w.heap.size w w'))
 case atStart=>exact ⟨(y360),(0),mq_,H',⟨Nat.le_refl _⟩,⟨mo_ HO362.out⟩,⟨mb_ HB⟩⟩
 clear H';(try clear c2b0);(try clear c2b1);(try clear c3b0);(try clear c3b1);obtain ⟨x3_1,x4_1,rfl,HA,HK1,HO_3,HB⟩:=hrel;obtain _|k1:=gk
 ·exact absurd HA.out (by simp [laws_toRuleS.l0])
 have H:=HA.out;clear HA;simp only [laws_toRuleS.l0] at H;by_cases c6:x4_1<(l0.length:Int)
 ·rw [if_pos c6] at H;have c6b0:=ct_ c6;clear c6;by_cases c7:0≤x4_1
  case neg=>
   rw [if_neg c7] at H;cases H
  rw [if_pos c7] at H;have c7b0:=ct_ c7;clear c7;obtain ⟨⟨t364,t365,t366,t369,t372⟩,A8,H⟩:=ob_ H;by_cases c9:x4_1<(x3_1.length:Int)
  case neg=>
   rw [if_neg c9] at H;cases H
  rw [if_pos c9] at H;have c9b0:=ct_ c9;clear c9;obtain ⟨y375,hy375⟩:∃y_:List (S58),y_=(x3_1.set (x4_1:Int).toNat (⟨t364,t365,t366,t369,t372⟩:S58)):=⟨_,rfl⟩;rw [←hy375] at H;(try rw [Option.bind_some] at H);have Ny375:=a_ hy375;clear hy375;have H':=a_ H;clear H;have p363:0≤(x4_1:Int):=md_
  have q363:x4_1<(l0.length:Int):=md_
  obtain ⟨ad363,A363_2,c363_2,A363_3,c363_3,A363_4,c363_4,e363,hx363_0,hx363_1,hx363_2,hx363_3,hx363_4,hl363_2,hi363_2,hl363_3,hi363_3,hl363_4,hi363_4⟩:=at_T50 HR0.out x4_1 p363 q363;cases e363;replace hx363_0:=mx_ HB hx363_0;replace hx363_1:=mx_ HB hx363_1;replace hx363_2:=mx_ HB hx363_2;replace hx363_3:=mx_ HB hx363_3;replace hx363_4:=mx_ HB hx363_4;have HR363_2:=a_ hi363_2;have HC363_2:=a_ hl363_2;clear hi363_2 hl363_2;have HR363_3:=a_ hi363_3;have HC363_3:=a_ hl363_3;clear hi363_3 hl363_3;have HR363_4:=a_ hi363_4;have HC363_4:=a_ hl363_4;clear hi363_4 hl363_4;replace p363:=eq_true p363;replace q363:=eq_true q363;go_wp2_with (first|((with_reducible refine gate_callee (f:=26) rfl ?_);refine goesL_ (some 20) rfl rfl Tryz.func26 (by kernel_rfl) rfl #[.agg #[.string ((rd_T50 l0 x4_1).f0),.int .i64 ((rd_T50 l0 x4_1).f1),.slice A363_2 ((rd_T50 l0 x4_1).f2).length c363_2,.slice A363_3 ((rd_T50 l0 x4_1).f3).length c363_3,.slice A363_4 ((rd_T50 l0 x4_1).f4).length c363_4]] rfl mw_ ?_;(with_reducible refine (laws_toRule.calls k1 ((rd_T50 l0 x4_1).f0) ((rd_T50 l0 x4_1).f1) _ _ ((rd_T50 l0 x4_1).f2) _ _ ((rd_T50 l0 x4_1).f3) _ _ ((rd_T50 l0 x4_1).f4) t364 t365 t366 t369 t372 _ ?side1 HC363_2.out ?side3 HC363_3.out ?side5 HC363_4.out A8.out).mono ?_);(case side1=>exact mt_ HR363_2 HB);(case side3=>exact mt_ HR363_3 HB);(case side5=>exact mt_ HR363_4 HB);rintro e w11 ⟨v367,v370,v373,rfl,ho0,ho1,ho2,hb⟩;refine ⟨_,rfl,?_⟩;have HO368:=a_ (Kd.S_lower ho0 (below_size (mb_ HB)));have HO371:=a_ (Kd.R_lower ho1 (below_size (mb_ HB)));have HO374:=a_ (Kd.S_lower ho2 (below_size (mb_ HB)));replace HO_3:=a_ (Kd.R_mono (Kd.R_told (Kd.R_told (Kd.R_told (Kd.R_old (mo_ HO_3.out) hb) (Kd.S_base ho0)) (Kd.R_base ho1)) (Kd.S_base ho2)) (fun _ h_=>h_.1));replace HB:=ms_ HB hb;(try clear hb ho0 ho1 ho2);have p10:0≤(x4_1:Int):=md_;have q10:(x4_1:Int)<((x3_1.length:Int):Int):=md_;obtain ⟨go10,co10,eo10,gb10,gl10,cl10,HG10⟩:=Kd.R_form HO_3.out (by omega);(first|cases eo10|(injection eo10 with ea_ en_ ec_;(first|subst ea_|(injection ea_ with ea_;subst ea_));subst ec_;clear en_));have GB10:=a_ gb10;have GG10:=a_ HG10;clear gb10 gl10 HG10;obtain ⟨ce10,hcl10,hM10,hcc10,hfr10⟩:=Kd.R_elem HO_3.out z58 (x4_1:Int) p10 q10;obtain ⟨ve10_2,ve10_3,ve10_4,rfl,ge10_2,ge10_3,ge10_4⟩:=k58_openM hM10;have hx10_0:w11.cell? ⟨go10,(x4_1:Int).toNat*5,none⟩=some (.string ((rd_T58 x3_1 x4_1).f0)):=hcc10 0 _ rfl;have hx10_1:w11.cell? ⟨go10,(x4_1:Int).toNat*5+1,none⟩=some (.int .i64 ((rd_T58 x3_1 x4_1).f1)):=hcc10 1 _ rfl;have hx10_2:w11.cell? ⟨go10,(x4_1:Int).toNat*5+2,none⟩=some (ve10_2):=hcc10 2 _ rfl;have hx10_3:w11.cell? ⟨go10,(x4_1:Int).toNat*5+3,none⟩=some (ve10_3):=hcc10 3 _ rfl;have hx10_4:w11.cell? ⟨go10,(x4_1:Int).toNat*5+4,none⟩=some (ve10_4):=hcc10 4 _ rfl;have hf10_0:w11.frozen? ⟨go10,(x4_1:Int).toNat*5,none⟩=false:=hfr10 0;have hf10_1:w11.frozen? ⟨go10,(x4_1:Int).toNat*5+1,none⟩=false:=hfr10 1;have hf10_2:w11.frozen? ⟨go10,(x4_1:Int).toNat*5+2,none⟩=false:=hfr10 2;have hf10_3:w11.frozen? ⟨go10,(x4_1:Int).toNat*5+3,none⟩=false:=hfr10 3;have hf10_4:w11.frozen? ⟨go10,(x4_1:Int).toNat*5+4,none⟩=false:=hfr10 4;clear hcl10 hcc10 hfr10;(try clear hM10);replace p10:=eq_true p10;replace q10:=eq_true q10;have n_:=a_ (Kd.R_mono (ok':=(fun k_=>some k_≠(v367:Value).ownBlock∧some k_≠(v370:Value).ownBlock∧some k_≠(v373:Value).ownBlock)) HO_3.out (fun k_ hk=>⟨hk.1.1.2,⟨hk.1.2,hk.2⟩⟩));clear HO_3;have HO_3:=n_;clear n_;have HX12:=a_ (show Kd.R k58 58 w11 w.heap.size (fun _=>True) (.slice (some ⟨go10,0,none⟩) x3_1.length co10) x3_1 from (mo_ (Kd.R_mono HO_3.out (fun _ hk=>trivial))));obtain ⟨ce12,hcl12,hM12,hcc12,hfr12⟩:=Kd.R_elem HX12.out z58 (x4_1:Int) (md_) (by have h_:(x4_1:Int)<((x3_1.length:Int):Int):=md_;first|exact h_|(have e_:=(Kd.R_reads' HO_3.out).1;omega)|simpa using h_);obtain ⟨ve12_2,ve12_3,ve12_4,rfl,ge12_2,ge12_3,ge12_4⟩:=k58_openM hM12;have HP12:=Kd.R_seg HX12.out (x4_1:Int) (md_) (by have h_:(x4_1:Int)<((x3_1.length:Int):Int):=md_;first|exact h_|(have e_:=(Kd.R_reads' HO_3.out).1;omega)|simpa using h_) (seg:=[.string t364,.int .i64 t365,v367,v370,v373]) (j:=0) hcl12 hcc12 (show 5≤5 from by decide) (x':=(⟨t364,t365,t366,t369,t372⟩:S58)) (k58_mkM _ _ _ (⟨t364,t365,t366,t369,t372⟩:S58) (Kd.R_mono (Kd.R_apart' ((Kd.S_R HO368.out)) (Kd.R_typed HO_3.out) (by decide)) (fun k_ hk=>⟨trivial,fun e_=>(hk.2) (by rw [e_];rfl)⟩)) (Kd.R_mono (Kd.R_apart' (HO371.out) (Kd.R_typed HO_3.out) (by decide)) (fun k_ hk=>⟨trivial,fun e_=>(hk.2) (by rw [e_];rfl)⟩)) (Kd.R_mono (Kd.R_apart' ((Kd.S_R HO374.out)) (Kd.R_typed HO_3.out) (by decide)) (fun k_ hk=>⟨trivial,fun e_=>(hk.2) (by rw [e_];rfl)⟩))) (fun _ hk=>hk);have hx12_0:=hcc12 0 _ rfl;(try simp only [show (k58).sz=5 from rfl,Nat.mul_one,Nat.add_zero] at hx12_0);have hf12_0:=hfr12 0;(try simp only [show (k58).sz=5 from rfl,Nat.mul_one,Nat.add_zero] at hf12_0);have hx12_1:=hcc12 1 _ rfl;(try simp only [show (k58).sz=5 from rfl,Nat.mul_one,Nat.add_zero] at hx12_1);have hf12_1:=hfr12 1;(try simp only [show (k58).sz=5 from rfl,Nat.mul_one,Nat.add_zero] at hf12_1);have hx12_2:=hcc12 2 _ rfl;(try simp only [show (k58).sz=5 from rfl,Nat.mul_one,Nat.add_zero] at hx12_2);have hf12_2:=hfr12 2;(try simp only [show (k58).sz=5 from rfl,Nat.mul_one,Nat.add_zero] at hf12_2);have hx12_3:=hcc12 3 _ rfl;(try simp only [show (k58).sz=5 from rfl,Nat.mul_one,Nat.add_zero] at hx12_3);have hf12_3:=hfr12 3;(try simp only [show (k58).sz=5 from rfl,Nat.mul_one,Nat.add_zero] at hf12_3);have hx12_4:=hcc12 4 _ rfl;(try simp only [show (k58).sz=5 from rfl,Nat.mul_one,Nat.add_zero] at hx12_4);have hf12_4:=hfr12 4;(try simp only [show (k58).sz=5 from rfl,Nat.mul_one,Nat.add_zero] at hf12_4);clear hcl12 hcc12 hfr12;(try clear hM12))|((with_reducible refine gate_store (t:=58) (p:=21) rfl ?_);refine store_event (t:=58) (p:=21) (v:=?vo_w13) (w1:=(((((w11.setCell ⟨go10,(x4_1:Int).toNat*5,none⟩ (.string t364)).setCell ⟨go10,(x4_1:Int).toNat*5+1,none⟩ (.int .i64 t365)).setCell ⟨go10,(x4_1:Int).toNat*5+2,none⟩ (v367)).setCell ⟨go10,(x4_1:Int).toNat*5+3,none⟩ (v370)).setCell ⟨go10,(x4_1:Int).toNat*5+4,none⟩ (v373))) ?hg ?ho ?hn ?hr ?_;(case ho=>rfl);(case hg=>rfl);(case hn=>rfl);(case hr=>first|(go_simp;done)|(go_simp;rfl)|((obtain ⟨As0_,cs0_,es0_⟩:=(by first|exact Kd.R_slice (Kd.S_R (Aside0.out (by with_reducible assumption:Aside0 (Kd.S _ _ _ _ _ v367 _))))|exact Kd.R_slice (Aside0.out (by with_reducible assumption:Aside0 (Kd.R _ _ _ _ _ v367 _)))|exact Kd.R_slice (Aside0.out ‹Aside0 (Kd.R _ _ _ _ _ v367 _)›):∃A_ c_,v367=Value.slice A_ _ c_));subst es0_;(obtain ⟨As1_,cs1_,es1_⟩:=(by first|exact Kd.R_slice (Kd.S_R (Aside0.out (by with_reducible assumption:Aside0 (Kd.S _ _ _ _ _ v370 _))))|exact Kd.R_slice (Aside0.out (by with_reducible assumption:Aside0 (Kd.R _ _ _ _ _ v370 _)))|exact Kd.R_slice (Aside0.out ‹Aside0 (Kd.R _ _ _ _ _ v370 _)›):∃A_ c_,v370=Value.slice A_ _ c_));subst es1_;(obtain ⟨As2_,cs2_,es2_⟩:=(by first|exact Kd.R_slice (Kd.S_R (Aside0.out (by with_reducible assumption:Aside0 (Kd.S _ _ _ _ _ v373 _))))|exact Kd.R_slice (Aside0.out (by with_reducible assumption:Aside0 (Kd.R _ _ _ _ _ v373 _)))|exact Kd.R_slice (Aside0.out ‹Aside0 (Kd.R _ _ _ _ _ v373 _)›):∃A_ c_,v373=Value.slice A_ _ c_));subst es2_;go_simp;done)|((obtain ⟨As0_,cs0_,es0_⟩:=(by first|exact Kd.R_slice (Kd.S_R (Aside0.out (by with_reducible assumption:Aside0 (Kd.S _ _ _ _ _ v367 _))))|exact Kd.R_slice (Aside0.out (by with_reducible assumption:Aside0 (Kd.R _ _ _ _ _ v367 _)))|exact Kd.R_slice (Aside0.out ‹Aside0 (Kd.R _ _ _ _ _ v367 _)›):∃A_ c_,v367=Value.slice A_ _ c_));subst es0_;(obtain ⟨As1_,cs1_,es1_⟩:=(by first|exact Kd.R_slice (Kd.S_R (Aside0.out (by with_reducible assumption:Aside0 (Kd.S _ _ _ _ _ v370 _))))|exact Kd.R_slice (Aside0.out (by with_reducible assumption:Aside0 (Kd.R _ _ _ _ _ v370 _)))|exact Kd.R_slice (Aside0.out ‹Aside0 (Kd.R _ _ _ _ _ v370 _)›):∃A_ c_,v370=Value.slice A_ _ c_));subst es1_;(obtain ⟨As2_,cs2_,es2_⟩:=(by first|exact Kd.R_slice (Kd.S_R (Aside0.out (by with_reducible assumption:Aside0 (Kd.S _ _ _ _ _ v373 _))))|exact Kd.R_slice (Aside0.out (by with_reducible assumption:Aside0 (Kd.R _ _ _ _ _ v373 _)))|exact Kd.R_slice (Aside0.out ‹Aside0 (Kd.R _ _ _ _ _ v373 _)›):∃A_ c_,v373=Value.slice A_ _ c_));subst es2_;go_simp;rfl));intro wx hw;have hg:w11.grownBy wx (some go10):=(by rw [hw];exact HP12.2);have hp_:Kd.R k58 58 wx w.heap.size (fun _=>True) (.slice (some ⟨go10,0,none⟩) x3_1.length co10) y375:=(by rw [hw,Ny375.out];exact HP12.1);clear HP12;replace HO_3:=a_ (hp_);replace HB:=a_ ((by rw [hw];exact below_set (below_set (below_set (below_set (below_set (HB.out) GB10.out) GB10.out) GB10.out) GB10.out) GB10.out:Below w.heap.size w wx));clear HO368 HO371 HO374;clear hg hw hp_))
  go_roundg k1
  case measure=>
   have:=HK1.out
   omega
  case rel=>exact ⟨(y375),(wrap64 (x4_1+1)),mq_,H',⟨by have:=HK1.out;omega⟩,⟨mo_ HO_3.out⟩,⟨mb_ HB⟩⟩
 ·rw [if_neg c6] at H;have c6b0:=cf_ c6;clear c6;obtain rfl:=oi_ H;go_wp2;go_ret;exact ⟨_,me_,mo_ HO_3.out,mb_ HB⟩
def laws_toInst.f (k:Nat) (a0_0:Int) (l0_1:List Int):Option (Int×List Int):=(laws_toIntS.f k l0_1).bind fun t379=>(some (a0_0,t379))
theorem laws_toInst.mono:∀a0 a1 k,LeO (laws_toInst.f k a0 a1) (laws_toInst.f (k+1) a0 a1):=by
 intro a0 a1 k;unfold laws_toInst.f
 repeat' with_reducible first|apply laws_toIntS.mono|apply LeO.refl|apply LeO.none|refine LeO.ite ?_ ?_|refine LeO.bind ?_ (fun _=>?_)
set_option maxHeartbeats 8000000 in
set_option maxRecDepth 100000 in
theorem laws_toInst.calls (k:Nat) (a0_0:Int) (A0_1:Option Addr) (c0_1:Nat) (l0_1:List Int) (r1:Int) (r2:List Int) (w:World) (hr0_1:Kd.C (Kd.int .i64) w A0_1 l0_1.length l0_1) (hc0_1:l0_1.length≤c0_1) (h:laws_toInst.f k a0_0 l0_1=some (r1,r2)):
  Calls Tryz.prog 9 #[.agg #[.int .i64 a0_0,.slice A0_1 l0_1.length c0_1]] w fun e w'=>∃v1_:Value,e=.returned (.agg #[.int .i64 r1,v1_])∧Kd.R (Kd.int .i64) 3 w' w.heap.size (fun _=>True) v1_ r2∧Below w.heap.size w w':=by
 have hu25:=Tryz.underlying25;have hu31:=Tryz.underlying31;have HR0_1:=a_ hr0_1;have HC0_1:=a_ hc0_1;clear hr0_1 hc0_1;have HB:=a_ (Below.refl w.heap.size w);have H:((laws_toIntS.f k l0_1).bind fun t379=>(some (a0_0,t379)))=some (r1,r2):=h
 clear h;obtain ⟨t379,A2,H⟩:=ob_ H;simp only [Option.some.injEq,Prod.mk.injEq] at H;obtain ⟨rfl,rfl⟩:=H;go_enter Tryz.func9,Tryz.ntmps9;go_wp2_with (first|((with_reducible refine gate_dst (N:=1) rfl ?_);refine bh_ 1 #[.int .i64 a0_0,.slice A0_1 l0_1.length c0_1] 25 HB ?_;intro gb376 hg wx BK376 GE376 hb;replace HB:=ms_ HB hb;clear hb hg)|((with_reducible refine gate_dst (N:=2) rfl ?_);refine bh_ 2 #[.int .i64 0,.slice none 0 0] 31 HB ?_;intro gb377 hg wx BK377 GE377 hb;obtain ⟨NB376_377,NB377_376⟩:=mn_ BK376 hg;replace BK376:=mk_ BK376 hb;replace HB:=ms_ HB hb;clear hb hg)|((with_reducible refine gate_dst (N:=3) rfl ?_);refine bh_ 3 #[.int .i64 0,.slice none 0 0] 31 HB ?_;intro gb378 hg wx BK378 GE378 hb;obtain ⟨NB376_378,NB378_376⟩:=mn_ BK376 hg;obtain ⟨NB377_378,NB378_377⟩:=mn_ BK377 hg;replace BK376:=mk_ BK376 hb;replace BK377:=mk_ BK377 hb;replace HB:=ms_ HB hb;clear hb hg;have nNB376_377:=NB376_377.out;have nNB377_376:=NB377_376.out;have nNB376_378:=NB376_378.out;have nNB378_376:=NB378_376.out;replace hz376:=cz2 BK376;have nNB378_377:=NB378_377.out;have nNB377_378:=NB377_378.out;replace hz378:=cz2 BK378)|((with_reducible refine gate_callee (f:=27) rfl ?_);refine goesL_ (some 9) rfl rfl Tryz.func27 (by kernel_rfl) rfl #[.slice A0_1 l0_1.length c0_1] rfl mw_ ?_;(with_reducible refine (laws_toIntS.calls k _ _ l0_1 t379 _ ?side1 HC0_1.out A2.out).mono ?_);(case side1=>exact Kd.C_below HR0_1.out (mb_ HB));rintro e wx ⟨v380,rfl,ho0,hb⟩;refine ⟨_,rfl,?_⟩;have HO381:=a_ (Kd.R_lower ho0 (below_size (mb_ HB)));replace BK376:=mk_ BK376 hb;replace BK377:=mk_ BK377 hb;replace BK378:=a_ (blk_below (g:=gb378) (o:=.cells #[.int .i64 a0_0,.slice none 0 0] 31 (0,0)) (mp_ BK378) hb);replace HB:=ms_ HB hb;(try clear hb ho0);obtain ⟨Ao12,co12,eo12⟩:=Kd.R_slice HO381.out;subst eo12;replace hz378:=cz2 BK378;replace hz377:=cz2 BK377));refine bodyPost_ret (results_cell_row rfl _ _ gb377 31 #[.int .i64 a0_0,.slice Ao12 t379.length co12] (0,0) _ rfl (mp_ BK377) Tryz.underlying31 rfl (by kernel_rfl)) rfl ?_;exact ⟨_,me_,mo_ (Kd.R_mono (Kd.R_far (p:=⟨gb377,1,none⟩) (Kd.R_far (p:=⟨gb377,0,none⟩) (Kd.R_far (p:=⟨gb378,1,none⟩) (Kd.R_types (Kd.R_types HO381.out BK378.out (by decide)) BK377.out (by decide)) (fun _ hk=>hk.1.2) (.slice Ao12 t379.length co12)) (fun _ hk=>hk.2) (.int .i64 a0_0)) (fun _ hk=>hk.2) (.slice Ao12 t379.length co12)) (fun _ hk=>trivial)),mb_ HB⟩
def impl_there.f (l0:List (S58)) (a1_0:Int) (l1_1:List Int):Option (Bool):=if a1_0≥0 then (if a1_0<(l0.length:Int) then (some (decide ((l1_1.length:Int)≤3))) else (some false)) else (some false)
theorem u838_0 {p:Prop} (h:p:=by
 obtain rfl:=oi_ H;go_enter Tryz.func28,Tryz.ntmps28;go_wp2_with (first|((with_reducible refine gate_dst (N:=3) rfl ?_);(try (refine gate_guard (by rfl) ?_;dsimp only));refine bh_ 3 #[.int .i64 a1_0,.slice A1_1 l1_1.length c1_1] 31 HB ?_;intro gb382 hg wx BK382 GE382 hb;replace HB:=ms_ HB hb;clear hb hg;replace hz382:=cz2 BK382));go_ret;exact ⟨me_,mb_ HB⟩):p:=h
set_option maxHeartbeats 8000000 in
set_option maxRecDepth 100000 in
theorem impl_there.calls (A0:Option Addr) (c0:Nat) (l0:List (S58)) (a1_0:Int) (A1_1:Option Addr) (c1_1:Nat) (l1_1:List Int) (r:Bool) (w:World) (hr0:Kd.C k58 w A0 l0.length l0) (hc0:l0.length≤c0) (hr1_1:Kd.C (Kd.int .i64) w A1_1 l1_1.length l1_1) (hc1_1:l1_1.length≤c1_1) (h:impl_there.f l0 a1_0 l1_1=some r):
  Calls Tryz.prog 28 #[.slice A0 l0.length c0,.agg #[.int .i64 a1_0,.slice A1_1 l1_1.length c1_1]] w fun e w'=>e=.returned (.bool r)∧Below w.heap.size w w':=by
 have hu31:=Tryz.underlying31;have HR0:=a_ hr0;have HC0:=a_ hc0;clear hr0 hc0;have HR1_1:=a_ hr1_1;have HC1_1:=a_ hc1_1;clear hr1_1 hc1_1;have HB:=a_ (Below.refl w.heap.size w);have H:=h;unfold impl_there.f at H
 clear h;by_cases c3:a1_0≥0
 ·rw [if_pos c3] at H;have c3b0:=ct_ c3;clear c3;by_cases c4:a1_0<(l0.length:Int)
  ·rw [if_pos c4] at H;have c4b0:=ct_ c4;clear c4;exact u838_0
  ·rw [if_neg c4] at H;have c4b0:=cf_ c4;clear c4;exact u838_0
 ·rw [if_neg c3] at H;have c3b0:=cf_ c3;clear c3;exact u838_0
end Go.Proofs.YtejjlkbbnhpbdaaGreat.P
namespace Go.Proofs.YtejjlkbbnhpbdaaGreatX
open Go.RowKit Go.Proofs.YtejjlkbbnhpbdaaGreatW.PrintWords
set_option linter.unusedVariables false
set_option linter.unusedSimpArgs false
def symOk (c:Int):Bool:=(decide (97≤c)&&decide (c≤122)) || (decide (48≤c)&&decide (c≤57)) || c==45
def symFrom (s:ByteArray) (i:Nat):Bool:=((List.range s.size).drop i).all fun j=>symOk (bt s j)
def goodSymB (s:ByteArray):Bool:=if s.size=0 then false else if 20<s.size then false else if bt s 0<97 then false else if 122<bt s 0 then false else symFrom s 0
theorem symFrom_end (s:ByteArray):symFrom s s.size=true:=by
 unfold symFrom
 rw [List.drop_of_length_le (by simp)];rfl
theorem symFrom_step (s:ByteArray) (i:Nat) (h:i<s.size):symFrom s i=(symOk (bt s i)&&symFrom s (i+1)):=by
 unfold symFrom
 rw [List.drop_eq_getElem_cons (by simpa using h),List.all_cons];simp
theorem high_rune (s:ByteArray) (pos:Nat) (h:pos<s.size) (hb:128≤(s[pos]'h).toNat):128≤(Utf8.decode s pos).1:=by
 have hg:(s.get! (pos+0)).toNat=(s[pos]'h).toNat:=by
  rw [Nat.add_zero];show (s.data[pos]!).toNat=_;rw [getElem!_pos s.data pos h];rfl
 unfold Utf8.decode
 simp only [hg];generalize (s[pos]'h).toNat=b at hb;generalize (s.get! (pos+1)).toNat=b1;generalize (s.get! (pos+2)).toNat=b2;generalize (s.get! (pos+3)).toNat=b3;rw [if_neg (by omega)];repeat' split
 all_goals first|(simp only [Utf8.runeError];omega)|(rename_i h1;simp only [Bool.and_eq_true,decide_eq_true_eq] at h1;simp only [];omega)|(simp only [];omega)
theorem sym_decode (s:ByteArray) (pos:Nat) (h:pos<s.size):symOk ((Utf8.decode s pos).1:Int)=symOk (bt s pos)∧(symOk (bt s pos)=true→(Utf8.decode s pos).2=1):=by
 have hb:bt s (pos:Int)=((s[pos]'h).toNat:Int):=(bt_at s pos (by simpa using h)).symm
 by_cases c:(s[pos]'h).toNat<128
 ·rw [decode_ascii s pos h c,hb];exact ⟨rfl,fun _=>rfl⟩
 ·have h1:=high_rune s pos h (by omega)
  have f1:symOk ((Utf8.decode s pos).1:Int)=false:=by
   simp [symOk];omega
  have f2:symOk (bt s (pos:Int))=false:=by
   rw [hb];simp [symOk];omega
  rw [f1,f2];exact ⟨rfl,fun h=>by cases h⟩
end Go.Proofs.YtejjlkbbnhpbdaaGreatX
namespace Go.Proofs.YtejjlkbbnhpbdaaGreat.P
open Go.Proofs.YtejjlkbbnhpbdaaGreatX
open Go.RowKit Go.Proofs.YtejjlkbbnhpbdaaGreatW.PrintWords Go.Proofs.YtejjlkbbnhpbdaaGreatW.PrintLast Go.Proofs.YtejjlkbbnhpbdaaGreatW.PrintMore
attribute [local go_sem] max2_int min2_int max_two min_two max_three min_three max_four min_four
set_option linter.unusedVariables false
set_option linter.unusedSimpArgs false
open Go.Proofs.YtejjlkbbnhpbdaaGreatX in
def impl_goodSym.f (a0:ByteArray):Option Bool:=some (goodSymB a0)
theorem u303_1 {p:Prop} (h:p:=by
 go_enter Tryz.func95,Tryz.ntmps95;go_wp2;go_ret;exact ⟨rfl,HB.out⟩):p:=h
theorem u303_0 {p:Prop} (h:p:=by
 have HO:=a_ ok;clear ok;go_wp2;go_roundw
 case rel=>
  have e1:=hsy.out;rw [HO.out] at e1;have e2:=e1.2 e1.1.symm;refine ⟨pos+1,by rw [←e2];exact hit2,⟨by have:=hp'.out;omega⟩,hbw2,⟨?_⟩⟩;rw [MI.out,hst.out,←e1.1];rfl
 case measure=>
  have e1:=hsy.out;rw [HO.out] at e1;have e2:=e1.2 e1.1.symm;have e3:W1.iterPos w.heap.size=pos+(Utf8.decode a0 pos).2:=by simp [World.iterPos,hit2]
  have:=hp'.out
  have:=hpos.out
  omega):p:=h
open Go.Proofs.YtejjlkbbnhpbdaaGreatX in
set_option maxHeartbeats 4000000 in
set_option maxRecDepth 100000 in
theorem impl_goodSym.calls (a0:ByteArray) (r:Bool) (w:World) (h:impl_goodSym.f a0=some r):
  Calls Tryz.prog 95 #[.string a0] w fun e w'=>e=.returned (.bool r)∧Below w.heap.size w w':=by
 have h:=Option.some.inj h;subst h;have HB:=a_ (Below.refl w.heap.size w);by_cases h1:a0.size=0
 ·have hv:goodSymB a0=false:=by unfold goodSymB;rw [if_pos h1]
  rw [hv];have q1:a0.toList=[]:=by rw [ByteArray.toList_eq];exact List.eq_nil_of_length_eq_zero (by rw [Array.length_toList];exact h1)
  clear h1 hv;exact u303_1
 have hz:0<a0.size:=by omega
 have hzz:¬(a0.toList=[]):=by
  intro e;rw [ByteArray.toList_eq] at e;have:=congrArg List.length e
  rw [Array.length_toList] at this;exact h1 this
 have q1:(a0.toList.isEmpty)=false:=by simpa using hzz
 have hbt:∀h:0<a0.size,((a0[0]'h).toNat:Int)=bt a0 0:=bt_at a0 0
 by_cases h2:20<a0.size
 ·have hv:goodSymB a0=false:=by unfold goodSymB;rw [if_neg h1,if_pos h2]
  rw [hv];have q2:decide (20<(a0.size:Int))=true:=decide_eq_true (by omega)
  clear h1 h2 hv;exact u303_1
 have q2:decide (20<(a0.size:Int))=false:=decide_eq_false (by omega)
 by_cases h3:bt a0 0<97
 ·have hv:goodSymB a0=false:=by unfold goodSymB;rw [if_neg h1,if_neg h2,if_pos h3]
  rw [hv];have q3:decide (bt a0 0<97)=true:=decide_eq_true h3
  clear h1 h2 h3 hv;exact u303_1
 have q3:decide (bt a0 0<97)=false:=decide_eq_false h3
 by_cases h4:122<bt a0 0
 ·have hv:goodSymB a0=false:=by unfold goodSymB;rw [if_neg h1,if_neg h2,if_neg h3,if_pos h4]
  rw [hv];have q4:decide (122<bt a0 0)=true:=decide_eq_true h4
  clear h1 h2 h3 h4 hv;exact u303_1
 have q4:decide (122<bt a0 0)=false:=decide_eq_false h4
 have hv:goodSymB a0=symFrom a0 0:=by unfold goodSymB;rw [if_neg h1,if_neg h2,if_neg h3,if_neg h4]
 rw [hv];have HS:=a_ (show a0.size≤20 by omega);clear h1 h2 h3 h4 hv;go_enter Tryz.func95,Tryz.ntmps95;go_wp2;clear q1 q2 q3 q4 hzz hbt;go_loopw [4] (fun _ wr=>∃pos:Nat,wr.heap[w.heap.size]?=some (.stringIter a0 pos)∧Aside0 (pos≤a0.size)∧Aside0 (Below w.heap.size w wr)∧Aside0 (symFrom a0 0=symFrom a0 pos)) (fun _ wr=>a0.size-wr.iterPos w.heap.size)
 case atStart=>exact ⟨0,World.iter_heap w a0 0,⟨Nat.zero_le _⟩,⟨(Below.refl _ _).alloc (Nat.le_refl _) _⟩,⟨rfl⟩⟩
 obtain ⟨pos,hit,hle,BW,MI⟩:=hrel;have hpos0:wr.iterPos w.heap.size=pos:=by simp [World.iterPos,hit]
 by_cases hp:pos<a0.size
 ·have hnx:∀ty,(Instr.next (.pointer (some ⟨w.heap.size,0,none⟩)) true ty).run Tryz.prog wr=_:=fun ty=>Lib.run_next_any_at wr w.heap.size a0 pos ty hit hp
  have hit2:=Lib.iterAt_heap wr w.heap.size a0 pos (pos+(Utf8.decode a0 pos).2) hit;have hbw2:=a_ (Lib.below_iterAt BW.out (k:=w.heap.size) (Nat.le_refl _) a0 (pos+(Utf8.decode a0 pos).2));obtain ⟨W1,hW1⟩:∃W1,W1=wr.iterAt w.heap.size a0 (pos+(Utf8.decode a0 pos).2):=⟨_,rfl⟩;rw [←hW1] at hnx hit2 hbw2;have hsy:=a_ (sym_decode a0 pos hp);have hst:=a_ (symFrom_step a0 pos hp);have hlo:(0:Int)≤((Utf8.decode a0 pos).1:Int):=by omega
  have hhi:((Utf8.decode a0 pos).1:Int)≤1114111:=by have:=Lib.rune_le a0 pos;omega
  have hp':=a_ hp;have hpos:=a_ hpos0;clear hW1 hit hp hpos0;generalize hc:((Utf8.decode a0 pos).1:Int)=c at hnx hlo hhi hsy;clear hc;by_cases g1:97≤c∧c≤122
  ·obtain ⟨g1,g2⟩:=g1;have k0:decide (97≤c)=true:=decide_eq_true (by omega)
   have k1:decide (c≤122)=true:=decide_eq_true (by omega)
   have ok:symOk c=true:=by simp [symOk];omega
   exact u303_0
  have a1:(decide (97≤c)=true∧decide (c≤122)=false)∨decide (97≤c)=false:=by
   by_cases e1:97≤c
   ·exact .inl ⟨decide_eq_true e1,decide_eq_false (by omega)⟩
   ·exact .inr (decide_eq_false e1)
  by_cases g3:48≤c∧c≤57
  ·obtain ⟨g3,g4⟩:=g3;clear a1;have k0:decide (97≤c)=false:=decide_eq_false (by omega)
   have k1:decide (48≤c)=true:=decide_eq_true (by omega)
   have k2:decide (c≤57)=true:=decide_eq_true (by omega)
   have ok:symOk c=true:=by simp [symOk];omega
   exact u303_0
  by_cases g5:c=45
  ·subst g5;clear a1;have k0:decide ((97:Int)≤45)=false:=decide_eq_false (by omega)
   have k1:decide ((48:Int)≤45)=false:=decide_eq_false (by omega)
   have ok:symOk 45=true:=by rfl
   exact u303_0
  have k5:(c==45)=false:=beq_eq_false_iff_ne.mpr g5
  have a2:(decide (48≤c)=true∧decide (c≤57)=false)∨decide (48≤c)=false:=by
   by_cases e1:48≤c
   ·exact .inl ⟨decide_eq_true e1,decide_eq_false (by omega)⟩
   ·exact .inr (decide_eq_false e1)
  rcases a1 with ⟨k0,k1⟩|k0<;>rcases a2 with ⟨k2,k3⟩|k2
  all_goals
   have ok:symOk c=false:=by simp [symOk];omega
   have HO:=a_ ok;clear ok;go_wp2;go_ret;refine ⟨?_,hbw2.out⟩;have e1:=hsy.out.1;rw [HO.out] at e1;rw [MI.out,hst.out,←e1];rfl
 ·have e:pos=a0.size:=by have:=hle.out;omega
  have hnx:∀ty,(Instr.next (.pointer (some ⟨w.heap.size,0,none⟩)) true ty).run Tryz.prog wr=_:=fun ty=>Lib.run_next_end_at wr w.heap.size a0 pos ty hit hp
  have HE:=a_ e;clear e hpos0 hp;go_wp2;go_ret;refine ⟨?_,BW.out⟩;rw [MI.out,HE.out,symFrom_end];rfl
end Go.Proofs.YtejjlkbbnhpbdaaGreat.P
namespace Go.Proofs.YtejjlkbbnhpbdaaGreat.P
open Go.Proofs.YtejjlkbbnhpbdaaGreatX
open Go.RowKit Go.Proofs.YtejjlkbbnhpbdaaGreatW.PrintWords Go.Proofs.YtejjlkbbnhpbdaaGreatW.PrintLast Go.Proofs.YtejjlkbbnhpbdaaGreatW.PrintMore
attribute [local go_sem] max2_int min2_int max_two min_two max_three min_three max_four min_four
set_option linter.unusedVariables false
set_option linter.unusedSimpArgs false
def impl_goodCls.f (a0:ByteArray):Option (Bool):=(impl_goodSym.f a0).bind fun t383=>(if t383=true then (some (a0.toList != ([110,111,116]:List UInt8))) else (some false))
theorem u2b3_0 {p:Prop} (h:p:=by
 obtain rfl:=oi_ H;go_enter Tryz.func112,Tryz.ntmps112;go_wp2_with (first|((with_reducible refine gate_callee (f:=95) rfl ?_);refine goesL_ (some 4) rfl rfl Tryz.func95 (by kernel_rfl) rfl #[.string a0] rfl mw_ ?_;(with_reducible refine (impl_goodSym.calls a0 true _ A2.out).mono ?_);rintro e wx ⟨rfl,hb⟩;refine ⟨_,rfl,?_⟩;replace HB:=ms_ HB hb;(try clear hb))|((with_reducible refine gate_callee (f:=95) rfl ?_);refine goesL_ (some 4) rfl rfl Tryz.func95 (by kernel_rfl) rfl #[.string a0] rfl mw_ ?_;(with_reducible refine (impl_goodSym.calls a0 false _ A2.out).mono ?_);rintro e wx ⟨rfl,hb⟩;refine ⟨_,rfl,?_⟩;replace HB:=ms_ HB hb;(try clear hb)));go_ret;exact ⟨me_,mb_ HB⟩):p:=h
set_option maxHeartbeats 8000000 in
set_option maxRecDepth 100000 in
theorem impl_goodCls.calls (a0:ByteArray) (r:Bool) (w:World) (h:impl_goodCls.f a0=some r):
  Calls Tryz.prog 112 #[.string a0] w fun e w'=>e=.returned (.bool r)∧Below w.heap.size w w':=by
 have HB:=a_ (Below.refl w.heap.size w);have H:=h;unfold impl_goodCls.f at H
 clear h;obtain ⟨t383,A2,H⟩:=ob_ H;by_cases c3:t383=true
 ·subst c3;rw [if_pos rfl] at H;exact u2b3_0
 ·replace c3:=Bool.eq_false_iff.mpr c3;subst c3;rw [if_neg (show ¬(false=true) by decide)] at H;exact u2b3_0
end Go.Proofs.YtejjlkbbnhpbdaaGreat.P
namespace Go.Proofs.YtejjlkbbnhpbdaaGreat.P
open Go.Proofs.YtejjlkbbnhpbdaaGreatX
open Go.RowKit Go.Proofs.YtejjlkbbnhpbdaaGreatW.PrintWords Go.Proofs.YtejjlkbbnhpbdaaGreatW.PrintLast Go.Proofs.YtejjlkbbnhpbdaaGreatW.PrintMore
attribute [local go_sem] max2_int min2_int max_two min_two max_three min_three max_four min_four
set_option linter.unusedVariables false
set_option linter.unusedSimpArgs false
open Go.Proofs.YtejjlkbbnhpbdaaGreatX in
def encTerm (x:S134):Value:=.agg #[.int .i64 (x).f0,.int .i64 (x).f1,.string (x).f2,.int .i64 (x).f3.f0,.int .i64 (x).f3.f1,.string (x).f3.f2]
open Go.Proofs.YtejjlkbbnhpbdaaGreatX in
set_option maxHeartbeats 2000000 in
set_option maxRecDepth 100000 in
theorem idxTerm.calls (g:Nat) (lb:Array Value) (eg:∀args w,(callFunc g args).run Tryz.prog w=.ok (.enter g args) w) (p:S134→Bool) (A:Option Addr) (c:Nat) (xs:List S134) (w:World)
  (hr:Kd.C k134 w A xs.length xs) (hc:xs.length≤c) (hm:xs.length≤bigN) (hp:PredB Tryz.prog g lb encTerm p xs w):
  Calls Tryz.prog 130 #[.slice A xs.length c,.func (.func g) #[] lb] w fun e w'=>e=.returned (.int .i64 (idxB p xs))∧Below w.heap.size w w':=by
 have hm:=le_of_bigN hm;have HR0:=a_ hr;have HC0:=a_ hc;have HP:=a_ hp;clear hr hc hp;go_enter Tryz.func130,Tryz.ntmps130;go_wp2;go_loopg [5,8] xs.length (fun gg _ s8 wr=>∃kk:Nat,kk≤xs.length∧xs.length-kk≤gg∧s8=.int .i64 kk∧Aside0 (Below w.heap.size w wr)∧Aside0 (∀j,j<kk→p (xs.getD j z134)=false))
 case atStart=>exact ⟨0,Nat.zero_le _,by omega,rfl,⟨Below.refl _ w⟩,⟨fun j hj=>absurd hj (Nat.not_lt_zero _)⟩⟩
 obtain ⟨kk,hkk,hg,rfl,BW,MI⟩:=hrel;by_cases hlt:kk<xs.length
 ·have hltz:(kk:Int)<(xs.length:Int):=by omega
  obtain ⟨ad,e0,hx0,hx1,hx2,hx3,hx4,hx5⟩:=at_T134 HR0.out (kk:Int) (by omega) hltz;cases e0;replace hx0:=(BW.out.cell (World.block_lt_of_cell? w _ hx0)).trans hx0;replace hx1:=(BW.out.cell (World.block_lt_of_cell? w _ hx1)).trans hx1;replace hx2:=(BW.out.cell (World.block_lt_of_cell? w _ hx2)).trans hx2;replace hx3:=(BW.out.cell (World.block_lt_of_cell? w _ hx3)).trans hx3;replace hx4:=(BW.out.cell (World.block_lt_of_cell? w _ hx4)).trans hx4;replace hx5:=(BW.out.cell (World.block_lt_of_cell? w _ hx5)).trans hx5;have hrd:rd_T134 xs (kk:Int)=xs.getD kk z134:=by simp [rd_T134]
  have hcall:=HP.out wr (xs.getD kk z134) (getD_mem hlt) BW.out;rw [hrd] at hx0 hx1 hx2 hx3 hx4 hx5;simp only [Int.toNat_natCast] at hx0 hx1 hx2 hx3 hx4 hx5;have HL:=a_ hlt;clear hrd;generalize hy:xs.getD kk z134=y at hx0 hx1 hx2 hx3 hx4 hx5 hcall;have HY:=a_ hy;clear hy;simp only [encTerm] at hcall;cases hq:p y with
  | true=>
   rw [hq] at hcall;have HQ:=a_ hq;have HH:=a_ hcall;clear hq hcall;go_wp2_with (go_at_fn g;refine HH.out.mono ?_;rintro e w' ⟨rfl,hb'⟩);go_ret;refine ⟨?_,below_then BW.out BW.out.size hb'⟩;rw [idxB_hit p xs kk z134 HL.out (by rw [HY.out];exact HQ.out) MI.out];rfl
  | false=>
   rw [hq] at hcall;have HQ:=a_ hq;have HH:=a_ hcall;clear hq hcall;go_wp2_with (go_at_fn g;refine HH.out.mono ?_;rintro e w' ⟨rfl,hb'⟩);go_roundg (xs.length-(kk+1))
   case measure=>omega
   case rel=>
    refine ⟨kk+1,by omega,by omega,by go_num,⟨below_then BW.out BW.out.size hb'⟩,⟨fun j hj=>?_⟩⟩;by_cases e:j=kk
    ·subst e;rw [HY.out];exact HQ.out
    ·exact MI.out j (by omega)
 ·have hltz:¬(kk:Int)<(xs.length:Int):=by omega
  have hk:kk=xs.length:=by omega
  have HK:=a_ hk;clear hk;go_wp2;go_ret;refine ⟨?_,BW.out⟩
  have hmiss:∀x,x∈xs→p x=false:=by
   intro x hx;obtain ⟨j,hj,e⟩:=List.getElem_of_mem hx;have:=MI.out j (by have:=HK.out;omega)
   rw [List.getD_eq_getElem?_getD,List.getElem?_eq_getElem hj] at this;rw [←e];exact this
  rw [idxB_miss p xs hmiss];rfl
end Go.Proofs.YtejjlkbbnhpbdaaGreat.P
namespace Go.Proofs.YtejjlkbbnhpbdaaGreat.P
open Go.Proofs.YtejjlkbbnhpbdaaGreatX
open Go.RowKit Go.Proofs.YtejjlkbbnhpbdaaGreatW.PrintWords Go.Proofs.YtejjlkbbnhpbdaaGreatW.PrintLast Go.Proofs.YtejjlkbbnhpbdaaGreatW.PrintMore
attribute [local go_sem] max2_int min2_int max_two min_two max_three min_three max_four min_four
set_option linter.unusedVariables false
set_option linter.unusedSimpArgs false
open Go.Proofs.YtejjlkbbnhpbdaaGreatX in
set_option maxHeartbeats 2000000 in
set_option maxRecDepth 100000 in
theorem containsTerm.calls (g:Nat) (lb:Array Value) (eg:∀args w,(callFunc g args).run Tryz.prog w=.ok (.enter g args) w) (p:S134→Bool) (A:Option Addr) (c:Nat) (xs:List S134) (w:World)
  (hr:Kd.C k134 w A xs.length xs) (hc:xs.length≤c) (hm:xs.length≤bigN) (hp:PredB Tryz.prog g lb encTerm p xs w):
  Calls Tryz.prog 113 #[.slice A xs.length c,.func (.func g) #[] lb] w fun e w'=>e=.returned (.bool (xs.any p))∧Below w.heap.size w w':=by
 have hcall:=idxTerm.calls g lb eg p A c xs w hr hc hm hp;rw [←idxB_any];have HH:=a_ hcall;clear hcall hr hc hm hp;go_enter Tryz.func113,Tryz.ntmps113;go_wp2_with (go_at_call 130;refine HH.out.mono ?_;rintro e w' ⟨rfl,hb'⟩);go_ret;exact ⟨rfl,hb'⟩
end Go.Proofs.YtejjlkbbnhpbdaaGreat.P
namespace Go.Proofs.YtejjlkbbnhpbdaaGreat.P
open Go.Proofs.YtejjlkbbnhpbdaaGreatX
open Go.RowKit Go.Proofs.YtejjlkbbnhpbdaaGreatW.PrintWords Go.Proofs.YtejjlkbbnhpbdaaGreatW.PrintLast Go.Proofs.YtejjlkbbnhpbdaaGreatW.PrintMore
attribute [local go_sem] max2_int min2_int max_two min_two max_three min_three max_four min_four
set_option linter.unusedVariables false
set_option linter.unusedSimpArgs false
def impl_Value_good.f (a0_0:Int) (a0_1:Int) (a0_2:ByteArray):Option (Bool):=if a0_0=0 then (some (a0_2.toList==([]:List UInt8))) else (if a0_0=1 then (if a0_1=0 then ((impl_goodSym.f a0_2).bind fun t385=>(some t385)) else (some false)) else (some false))
theorem ud6c_0 {p:Prop} (h:p:=by
 obtain rfl:=oi_ H;go_enter Tryz.func116,Tryz.ntmps116;go_wp2_with (first|((with_reducible refine gate_dst (N:=1) rfl ?_);refine bh_ 1 #[.int .i64 a0_0,.int .i64 a0_1,.string a0_2] 104 HB ?_;intro gb384 hg wx BK384 GE384 hb;replace HB:=ms_ HB hb;clear hb hg;replace hz384:=cz3 BK384)|(go_at_call 95;(with_reducible refine (impl_goodSym.calls a0_2 t385 _ A7.out).mono ?_);rintro e wx ⟨rfl,hb⟩;replace BK384:=mk_ BK384 hb;replace HB:=ms_ HB hb;(try clear hb)));go_ret;exact ⟨me_,mb_ HB⟩):p:=h
set_option maxHeartbeats 8000000 in
set_option maxRecDepth 100000 in
theorem impl_Value_good.calls (a0_0:Int) (a0_1:Int) (a0_2:ByteArray) (r:Bool) (w:World) (h:impl_Value_good.f a0_0 a0_1 a0_2=some r):
  Calls Tryz.prog 116 #[.agg #[.int .i64 a0_0,.int .i64 a0_1,.string a0_2]] w fun e w'=>e=.returned (.bool r)∧Below w.heap.size w w':=by
 have hu104:=Tryz.underlying104;have HB:=a_ (Below.refl w.heap.size w);have H:=h;unfold impl_Value_good.f at H
 clear h;by_cases c2:a0_0=0
 ·rw [if_pos c2] at H;obtain ⟨c2b0,c2b1⟩:=bq_ c2;clear c2;exact ud6c_0
 ·rw [if_neg c2] at H;obtain ⟨c2b0,c2b1⟩:=bn_ c2;by_cases c5:a0_0=1
  ·rw [if_pos c5] at H;obtain ⟨c5b0,c5b1⟩:=bq_ c5;clear c5;by_cases c6:a0_1=0
   ·rw [if_pos c6] at H;obtain ⟨c6b0,c6b1⟩:=bq_ c6;clear c6;obtain ⟨t385,A7,H⟩:=ob_ H;exact ud6c_0
   ·rw [if_neg c6] at H;obtain ⟨c6b0,c6b1⟩:=bn_ c6;exact ud6c_0
  ·rw [if_neg c5] at H;obtain ⟨c5b0,c5b1⟩:=bn_ c5;exact ud6c_0
end Go.Proofs.YtejjlkbbnhpbdaaGreat.P
namespace Go.Proofs.YtejjlkbbnhpbdaaGreat.P
open Go.Proofs.YtejjlkbbnhpbdaaGreatX
open Go.RowKit Go.Proofs.YtejjlkbbnhpbdaaGreatW.PrintWords Go.Proofs.YtejjlkbbnhpbdaaGreatW.PrintLast Go.Proofs.YtejjlkbbnhpbdaaGreatW.PrintMore
attribute [local go_sem] max2_int min2_int max_two min_two max_three min_three max_four min_four
set_option linter.unusedVariables false
set_option linter.unusedSimpArgs false
def goodValueB (v:S104):Bool:=(impl_Value_good.f v.f0 v.f1 v.f2).getD false
theorem goodValueB_some (v:S104):impl_Value_good.f v.f0 v.f1 v.f2=some (goodValueB v):=by
 unfold goodValueB
 have:∃r,impl_Value_good.f v.f0 v.f1 v.f2=some r:=by
  unfold impl_Value_good.f
  simp only [impl_goodSym.f,Option.bind_some];repeat' split
  all_goals exact ⟨_,rfl⟩
 obtain ⟨r,hr⟩:=this;rw [hr];rfl
open Go.Proofs.YtejjlkbbnhpbdaaGreatX
def zeroValB (v:S104):Bool:=v.f0==0&&(v.f1==0&&v.f2.toList.isEmpty)
def goodTermB (t:S134):Bool:=
 if t.f0=0 then t.f1==0&&(t.f2.toList.isEmpty&&zeroValB t.f3)
 else if t.f0=1 then (t.f1==0&&t.f2.toList.isEmpty)&&goodValueB t.f3
 else if t.f0=2 then (t.f1==0&&zeroValB t.f3)&&goodSymB t.f2
 else if t.f0=3 then if t.f1<1 then false else if 6<t.f1 then false else if t.f2.toList.isEmpty then goodValueB t.f3 else goodSymB t.f2&&zeroValB t.f3
 else false
def impl_Term_good.f (a0_0 a0_1:Int) (a0_2:ByteArray) (a0_3 a0_4:Int) (a0_5:ByteArray):Option Bool:=some (goodTermB ⟨a0_0,a0_1,a0_2,⟨a0_3,a0_4,a0_5⟩⟩)
theorem ne_tf {x y:Int} (h:x≠y):(x==y)=false:=beq_eq_false_iff_ne.mpr h
theorem uf71_0 {p:Prop} (h:p:=by
 go_enter Tryz.func115,Tryz.ntmps115;go_wp2;all_goals go_ret
 all_goals exact ⟨by first|rfl|(simp;done)|(simp [*];done)|(simp_all;done),by repeat (first|exact HB.out|apply below_drew|apply below_alloc)⟩):p:=h
set_option maxHeartbeats 8000000 in
set_option maxRecDepth 100000 in
theorem impl_Term_good.calls (a0_0 a0_1:Int) (a0_2:ByteArray) (a0_3 a0_4:Int) (a0_5:ByteArray) (r:Bool) (w:World) (h:impl_Term_good.f a0_0 a0_1 a0_2 a0_3 a0_4 a0_5=some r):
  Calls Tryz.prog 115 #[.agg #[.int .i64 a0_0,.int .i64 a0_1,.string a0_2,.int .i64 a0_3,.int .i64 a0_4,.string a0_5]] w fun e w'=>e=.returned (.bool r)∧Below w.heap.size w w':=by
 have h:=Option.some.inj h;subst h;have hu:=Tryz.underlying134;have hu1:=Tryz.underlying104;have HB:=a_ (Below.refl w.heap.size w);have HV:=a_ (goodValueB_some ⟨a0_3,a0_4,a0_5⟩);have HS:Aside0 (impl_goodSym.f a0_2=some (goodSymB a0_2)):=⟨rfl⟩
 by_cases k0:a0_0=0
 ·subst k0;rw [show goodTermB _=(a0_1==0&&(a0_2.toList.isEmpty&&(a0_3==0&&(a0_4==0&&a0_5.toList.isEmpty)))) by simp [goodTermB,zeroValB]];exact uf71_0
 have q0:=ne_tf k0;by_cases k1:a0_0=1
 ·subst k1;by_cases e1:a0_1=0
  ·subst e1;cases e2:a0_2.toList.isEmpty with
   | true=>
    rw [show goodTermB _=goodValueB ⟨a0_3,a0_4,a0_5⟩ by simp [goodTermB,e2]];go_enter Tryz.func115,Tryz.ntmps115;go_wp2_with (go_at_call 116;refine (impl_Value_good.calls _ _ _ _ _ HV.out).mono ?_;rintro e w' ⟨rfl,hd⟩);all_goals go_ret
    all_goals exact ⟨by first|rfl|(simp;done)|(simp [*];done)|(simp_all;done),Below.trans (by repeat (first|exact HB.out|apply below_drew|apply below_alloc)) (hd.mono (by simp;omega))⟩
   | false=>
    rw [show goodTermB _=false by simp [goodTermB,e2]];go_enter Tryz.func115,Tryz.ntmps115;go_wp2;all_goals go_ret
    all_goals exact ⟨by first|rfl|(simp;done)|(simp [*];done)|(simp_all;done),by repeat (first|exact HB.out|apply below_drew|apply below_alloc)⟩
  ·have p1:=ne_tf e1;rw [show goodTermB _=false by simp [goodTermB,e1]];exact uf71_0
 have q1:=ne_tf k1;by_cases k2:a0_0=2
 ·subst k2;by_cases e1:a0_1=0
  ·subst e1;by_cases e3:a0_3=0
   ·subst e3;by_cases e4:a0_4=0
    ·subst e4;cases e5:a0_5.toList.isEmpty with
     | true=>
      rw [show goodTermB _=goodSymB a0_2 by simp [goodTermB,zeroValB,e5]];go_enter Tryz.func115,Tryz.ntmps115;go_wp2_with (go_at_call 95;refine (impl_goodSym.calls _ _ _ HS.out).mono ?_;rintro e w' ⟨rfl,hd⟩);all_goals go_ret
      all_goals exact ⟨by first|rfl|(simp;done)|(simp [*];done)|(simp_all;done),Below.trans (by repeat (first|exact HB.out|apply below_drew|apply below_alloc)) (hd.mono (by simp;omega))⟩
     | false=>
      rw [show goodTermB _=false by simp [goodTermB,zeroValB,e5]];go_enter Tryz.func115,Tryz.ntmps115;go_wp2;all_goals go_ret
      all_goals exact ⟨by first|rfl|(simp;done)|(simp [*];done)|(simp_all;done),by repeat (first|exact HB.out|apply below_drew|apply below_alloc)⟩
    ·have p4:=ne_tf e4;rw [show goodTermB _=false by simp [goodTermB,zeroValB,e4]];exact uf71_0
   ·have p3:=ne_tf e3;rw [show goodTermB _=false by simp [goodTermB,zeroValB,e3]];exact uf71_0
  ·have p1:=ne_tf e1;rw [show goodTermB _=false by simp [goodTermB,zeroValB,e1]];exact uf71_0
 have q2:=ne_tf k2;by_cases k3:a0_0=3
 ·subst k3;by_cases e1:a0_1<1
  ·have p1:decide (a0_1<1)=true:=decide_eq_true e1
   rw [show goodTermB _=false by simp [goodTermB,e1]];exact uf71_0
  have p1:decide (a0_1<1)=false:=decide_eq_false e1
  by_cases e2:6<a0_1
  ·have p2:decide (6<a0_1)=true:=decide_eq_true e2
   rw [show goodTermB _=false by simp [goodTermB,e1,e2]];exact uf71_0
  have p2:decide (6<a0_1)=false:=decide_eq_false e2
  cases e3:a0_2.toList.isEmpty with
  | true=>
   rw [show goodTermB _=goodValueB ⟨a0_3,a0_4,a0_5⟩ by simp [goodTermB,e1,e2,e3]];go_enter Tryz.func115,Tryz.ntmps115;go_wp2_with (go_at_call 116;refine (impl_Value_good.calls _ _ _ _ _ HV.out).mono ?_;rintro e w' ⟨rfl,hd⟩);all_goals go_ret
   all_goals exact ⟨by first|rfl|(simp;done)|(simp [*];done)|(simp_all;done),Below.trans (by repeat (first|exact HB.out|apply below_drew|apply below_alloc)) (hd.mono (by simp;omega))⟩
  | false=>
   cases e4:goodSymB a0_2 with
   | true=>
    rw [e4] at HS;rw [show goodTermB _=(a0_3==0&&(a0_4==0&&a0_5.toList.isEmpty)) by simp [goodTermB,zeroValB,e1,e2,e3,e4]];go_enter Tryz.func115,Tryz.ntmps115;go_wp2_with (go_at_call 95;refine (impl_goodSym.calls _ _ _ HS.out).mono ?_;rintro e w' ⟨rfl,hd⟩;obtain ⟨hc1,hf1⟩:=cellsBelow hd rfl);all_goals go_ret
    all_goals exact ⟨by first|rfl|(simp;done)|(simp [*];done)|(simp_all;done),Below.trans (by repeat (first|exact HB.out|apply below_drew|apply below_alloc)) (hd.mono (by simp;omega))⟩
   | false=>
    rw [e4] at HS;rw [show goodTermB _=false by simp [goodTermB,e1,e2,e3,e4]];go_enter Tryz.func115,Tryz.ntmps115;go_wp2_with (go_at_call 95;refine (impl_goodSym.calls _ _ _ HS.out).mono ?_;rintro e w' ⟨rfl,hd⟩);all_goals go_ret
    all_goals exact ⟨by first|rfl|(simp;done)|(simp [*];done)|(simp_all;done),Below.trans (by repeat (first|exact HB.out|apply below_drew|apply below_alloc)) (hd.mono (by simp;omega))⟩
 have q3:=ne_tf k3;rw [show goodTermB _=false by simp [goodTermB,k0,k1,k2,k3]];exact uf71_0
end Go.Proofs.YtejjlkbbnhpbdaaGreat.P
namespace Go.Proofs.YtejjlkbbnhpbdaaGreat.P
open Go.Proofs.YtejjlkbbnhpbdaaGreatX
open Go.RowKit Go.Proofs.YtejjlkbbnhpbdaaGreatW.PrintWords Go.Proofs.YtejjlkbbnhpbdaaGreatW.PrintLast Go.Proofs.YtejjlkbbnhpbdaaGreatW.PrintMore
attribute [local go_sem] max2_int min2_int max_two min_two max_three min_three max_four min_four
set_option linter.unusedVariables false
set_option linter.unusedSimpArgs false
theorem goodTermB_some (v:S134):impl_Term_good.f v.f0 v.f1 v.f2 v.f3.f0 v.f3.f1 v.f3.f2=some (goodTermB v):=rfl
open Go.Proofs.YtejjlkbbnhpbdaaGreatX in
set_option maxHeartbeats 2000000 in
set_option maxRecDepth 100000 in
theorem badTerm.calls (v:S134) (w:World):
  Calls Tryz.prog 114 (#[encTerm v]++#[]) w fun e w'=>e=.returned (.bool (!goodTermB v))∧Below w.heap.size w w':=by
 have hu:=Tryz.underlying134;have HB:=a_ (Below.refl w.heap.size w);have ea:#[encTerm v]++#[]=#[.agg #[.int .i64 (v).f0,.int .i64 (v).f1,.string (v).f2,.int .i64 (v).f3.f0,.int .i64 (v).f3.f1,.string (v).f3.f2]]:=rfl
 rw [ea];clear ea;have hg:=goodTermB_some v;have HG:=a_ hg;clear hg;go_enter Tryz.func114,Tryz.ntmps114;go_wp2_with (go_at_call 115;refine (impl_Term_good.calls _ _ _ _ _ _ _ _ HG.out).mono ?_;rintro e w' ⟨rfl,hd⟩);go_ret;exact ⟨rfl,Below.trans (by repeat (first|exact HB.out|apply below_alloc)) (hd.mono (by simp))⟩
open Go.Proofs.YtejjlkbbnhpbdaaGreatX in
def goodClsB (s:ByteArray):Bool:=goodSymB s&&(s.toList != ([110,111,116]:List UInt8))
theorem goodCls_some (s:ByteArray):impl_goodCls.f s=some (goodClsB s):=by
 unfold impl_goodCls.f impl_goodSym.f goodClsB
 simp only [Option.bind_some];cases Go.Proofs.YtejjlkbbnhpbdaaGreatX.goodSymB s<;>rfl
def goodPatB (cls:ByteArray) (ts:List S134):Bool:=goodClsB cls&&(decide (ts.length≤6)&&ts.all goodTermB)
def impl_Pattern_good.f (a0_0:Bool) (a0_1:ByteArray) (l0_2:List S134):Option Bool:=some (goodPatB a0_1 l0_2)
open Go.Proofs.YtejjlkbbnhpbdaaGreatX in
set_option maxHeartbeats 4000000 in
set_option maxRecDepth 100000 in
theorem impl_Pattern_good.calls (a0_0:Bool) (a0_1:ByteArray) (A0_2:Option Addr) (c0_2:Nat) (l0_2:List S134) (r:Bool) (w:World) (hr0_2:Kd.C k134 w A0_2 l0_2.length l0_2) (hc0_2:l0_2.length≤c0_2) (h:impl_Pattern_good.f a0_0 a0_1 l0_2=some r):
  Calls Tryz.prog 96 #[.agg #[.bool a0_0,.string a0_1,.slice A0_2 l0_2.length c0_2]] w fun e w'=>e=.returned (.bool r)∧Below w.heap.size w w':=by
 have h:=Option.some.inj h;subst h;have hu:=Tryz.underlying101;have HB:=a_ (Below.refl w.heap.size w);have HR:=a_ hr0_2;have HC:=a_ hc0_2;have HG:=a_ (goodCls_some a0_1);clear hr0_2 hc0_2;have hu0:=Tryz.underlying134;cases h0:goodClsB a0_1 with
 | true=>
  rw [h0] at HG;by_cases h1:l0_2.length≤6
  ·have q1:decide ((l0_2.length:Int)≤6)=true:=decide_eq_true (by omega)
   have HM:=a_ (show l0_2.length≤bigN by unfold bigN;omega)
   have hv:goodPatB a0_1 l0_2 = !(l0_2.any fun v=>!goodTermB v):=by
    unfold goodPatB
    rw [h0,decide_eq_true h1,Bool.true_and,Bool.true_and,List.not_any_eq_all_not];congr 1
    funext v
    simp
   rw [hv];clear h0 h1 hv;go_enter Tryz.func96,Tryz.ntmps96
   go_wp2_with (first
    | (go_at_call 112;refine (impl_goodCls.calls _ _ _ HG.out).mono ?_;rintro e w1 ⟨rfl,hd⟩;obtain ⟨hc1,hf1⟩:=cellsBelow hd rfl)
    | (go_at_call 113;refine (containsTerm.calls 114 _ (enters_of Tryz.func114 (by kernel_rfl) rfl) (fun v=>!goodTermB v) _ _ l0_2 _ ?hr HC.out HM.out ?hp).mono ?hk))
   case hr=>exact Kd.C_below HR.out (Below.trans (by repeat (first|exact HB.out|apply below_alloc)) (hd.mono (by first|(simp;done)|(simp;omega))))
   case hp=>exact fun W x _ _=>badTerm.calls x W
   case hk=>
    first|rintro e w2 ⟨rfl,hd2⟩|rintro e w2 rfl hd2
    go_wp2;go_ret;exact ⟨rfl,Below.trans (Below.trans (by repeat (first|exact HB.out|apply below_alloc)) (hd.mono (by first|(simp;done)|(simp;omega)))) (hd2.mono (by have:=hd.size;simp at this;omega))⟩
  ·have q1:decide ((l0_2.length:Int)≤6)=false:=decide_eq_false (by omega)
   have hv:goodPatB a0_1 l0_2=false:=by unfold goodPatB;rw [h0,decide_eq_false h1];rfl
   rw [hv];clear h0 h1 hv;go_enter Tryz.func96,Tryz.ntmps96;go_wp2_with (go_at_call 112;refine (impl_goodCls.calls _ _ _ HG.out).mono ?_;rintro e w1 ⟨rfl,hd⟩;obtain ⟨hc1,hf1⟩:=cellsBelow hd rfl);go_ret;exact ⟨rfl,Below.trans (by repeat (first|exact HB.out|apply below_alloc)) (hd.mono (by first|(simp;done)|(simp;omega)))⟩
 | false=>
  rw [h0] at HG;have hv:goodPatB a0_1 l0_2=false:=by unfold goodPatB;rw [h0];rfl
  rw [hv];clear h0 hv;go_enter Tryz.func96,Tryz.ntmps96;go_wp2_with (go_at_call 112;refine (impl_goodCls.calls _ _ _ HG.out).mono ?_;rintro e w1 ⟨rfl,hd⟩;obtain ⟨hc1,hf1⟩:=cellsBelow hd rfl);go_ret;exact ⟨rfl,Below.trans (by repeat (first|exact HB.out|apply below_alloc)) (hd.mono (by first|(simp;done)|(simp;omega)))⟩
end Go.Proofs.YtejjlkbbnhpbdaaGreat.P
