/- The row of the law FnExactAlphaNet: for every input the call returns true, and each argument reads behind it as it read before; no condition of ours. -/
import Derived.OneCell
import Derived.IntWalk
import Derived.Deep.LoopGhost
import Derived.Lib.ItoaNum
import Derived.Test.YtahambloheoebaaGreatDoorQAn7
set_option linter.unusedVariables false
set_option linter.unusedSimpArgs false
namespace Go.Proofs.YtahambloheoebaaGreatDoor.P
open Go.Proofs.YtahambloheoebaaGreatDoorX
open Go.RowKit Go.Proofs.YtahambloheoebaaGreatDoorW.PrintWords Go.Proofs.YtahambloheoebaaGreatDoorW.PrintLast Go.Proofs.YtahambloheoebaaGreatDoorW.PrintMore
attribute [local go_sem] ww_ wx_ max_two min_two wc_ wb_ wu_ wv_
def zx_.l0:Nat→List (S50)→Int→Int→Option (Int)
 | 0,_,_,_=>none
 | k+1,x0,x1,x5=>if x5<(x0.length:Int) then (if 0≤x5 then ((zi_.f k x1).bind fun t490=>(if ((xg_ x0 x5).f0).toList=t490.toList then (if ((xg_ x0 x5).f1)=(wrap64 (x1+1)) then ((zh_.f k ((xg_ x0 x5).f2) (wrap64 ((wrap64 (x1+1))+1))).bind fun t493=>(if t493<0 then (some (-1)) else (zx_.l0 k x0 t493 (wrap64 (x5+1))))) else (some (-1))) else (some (-1)))) else (none)) else (some x1)
def zx_.f (k:Nat) (l0:List (S50)) (a1:Int):Option (Int):=zx_.l0 k l0 a1 0
theorem zx_.y6_:∀k,(∀y0 y1 y2,LeO (zx_.l0 k y0 y1 y2) (zx_.l0 (k+1) y0 y1 y2))
 | 0=>fun _ _ _ r h=>by simp [zx_.l0] at h
 | k+1=>by
  have ih0:=zx_.y6_ k
  ·intro y0 y1 y2;unfold zx_.l0
   repeat' with_reducible first|apply ih0|apply zh_.mono|apply zi_.mono|apply LeO.refl|apply LeO.none|refine LeO.ite ?_ ?_|refine LeO.bind ?_ (fun _=>?_)
theorem zx_.mono:∀a0 a1 k,LeO (zx_.f k a0 a1) (zx_.f (k+1) a0 a1):=by
 intro a0 a1 k;have ih0:=zx_.y6_ k;unfold zx_.f
 repeat' with_reducible first|apply ih0|apply zh_.mono|apply zi_.mono|apply LeO.refl|apply LeO.none|refine LeO.ite ?_ ?_|refine LeO.bind ?_ (fun _=>?_)
def zx_.T4:Bool×List (List Nat×List Nat):=(true,[([],[]),([],[]),([0,1],[0,1]),([2],[2]),([3],[3]),([],[]),([5],[5]),([4,6],[4,6])])
def zx_.B4:List Nat:=[0,0,3,7,15,0,32,127]
theorem zx_.tab4:rtab .any (opsOf Tryz.f57 4)=zx_.T4:=by kernel_rfl
theorem zx_.bits4:waitsOk zx_.T4.2 zx_.B4=true:=by kernel_rfl
abbrev bd02_0:Array Bool:=#[f_,f_,f_,f_,f_,f_,f_,f_]
abbrev bd02_1:Array Bool:=#[t_,f_,f_,f_,f_,f_,f_,f_]
abbrev bd02_2:Array Bool:=#[t_,t_,f_,f_,f_,f_,f_,f_]
abbrev bd02_3:Array Bool:=#[t_,t_,t_,f_,f_,f_,f_,f_]
abbrev bd02_4:Array Bool:=#[t_,t_,t_,t_,f_,f_,f_,f_]
abbrev bd02_5:Array Bool:=#[t_,t_,t_,t_,f_,t_,f_,f_]
abbrev bd02_6:Array Bool:=#[t_,t_,t_,t_,t_,t_,f_,f_]
abbrev bd02_7:Array Bool:=#[t_,t_,t_,t_,t_,t_,t_,f_]
abbrev bd02_8:Array Bool:=#[t_,t_,t_,t_,t_,t_,t_,t_]
set_option maxHeartbeats 8000000 in
set_option maxRecDepth 100000 in
theorem zx_.calls (k:Nat) (A0:Option Addr) (c0:Nat) (l0:List (S50)) (a1:Int) (r:Int) (w:World) (hr0:Kd.C k50 w A0 l0.length l0) (hc0:l0.length≤c0) (h:zx_.f k l0 a1=some r):
  Calls Tryz.prog 57 #[.slice A0 l0.length c0,.int .i64 a1] w fun e w'=>e=.returned (.int .i64 r)∧Below w.heap.size w w':=by
 have HR0:=a_ hr0;have HC0:=a_ hc0;clear hr0 hc0;have HB:=a_ (Below.refl w.heap.size w);have H:(zx_.l0 k l0 a1 0)=some r:=h
 clear h;have H':=a_ H;clear H;go_enter Tryz.func57,Tryz.ntmps57;go_wp2;go_loopg [1,5] k (fun kq v1 v5 w'=>∃(x1_1:Int) (x5_1:Int),v1=.int .i64 x1_1∧v5=.int .i64 x5_1∧z0_ (zx_.l0 kq l0 x1_1 x5_1=some r)∧z0_ (kq≤k)∧z0_ (Below w.heap.size w w'))
 case atStart=>exact ⟨(a1),(0),mq_,mq_,H',⟨Nat.le_refl _⟩,⟨mb_ HB⟩⟩
 clear H';obtain ⟨x1_1,x5_1,rfl,rfl,HA,HK1,HB⟩:=hrel;obtain _|k1:=gk
 ·exact absurd HA.out (by simp [zx_.l0])
 have H:=HA.out;clear HA;simp only [zx_.l0] at H;by_cases c3:x5_1<(l0.length:Int)
 ·rw [if_pos c3] at H;have c3b0:=ct_ c3;clear c3;by_cases c4:0≤x5_1
  case neg=>
   rw [if_neg c4] at H;cases H
  rw [if_pos c4] at H;have c4b0:=ct_ c4;clear c4;obtain ⟨t490,A5,H⟩:=ob_ H;by_cases c6:((xg_ l0 x5_1).f0).toList=t490.toList
  ·rw [if_pos c6] at H;obtain ⟨c6b0,c6b1⟩:=bq_ c6;clear c6;by_cases c7:((xg_ l0 x5_1).f1)=(wrap64 (x1_1+1))
   ·rw [if_pos c7] at H;obtain ⟨c7b0,c7b1⟩:=bq_ c7;clear c7;obtain ⟨t493,A8,H⟩:=ob_ H;by_cases c9:t493<0
    ·rw [if_pos c9] at H;have c9b0:=ct_ c9;clear c9;obtain rfl:=oi_ H;try go_wp2
     replace HB:=a_ (x2_ HB.out);have p489:0≤(x5_1:Int):=md_
     have q489:x5_1<(l0.length:Int):=md_
     obtain ⟨ad489,A489_2,c489_2,e489,hx489_0,hx489_1,hx489_2,hl489_2,hi489_2⟩:=at_T50 HR0.out x5_1 p489 q489;have hw489_2:=hx489_2;have hw489_1:=hx489_1;have hw489_0:=hx489_0;cases e489;replace hx489_0:=mx_ HB hx489_0;replace hx489_1:=mx_ HB hx489_1;replace hx489_2:=mx_ HB hx489_2;have HR489_2:=a_ hi489_2;have HC489_2:=a_ hl489_2;clear hi489_2 hl489_2;replace p489:=eq_true p489;replace q489:=eq_true q489;refine start_ (n:=8) (S:=fun w'=>w'.cell? (ad489.add ((x5_1).toNat*3))=some (.string ((xg_ l0 x5_1).f0))∧w'.cell? ⟨(ad489.add ((x5_1).toNat*3)).block,(ad489.add ((x5_1).toNat*3)).off+1,none⟩=some (.int .i64 ((xg_ l0 x5_1).f1))∧w'.cell? ⟨(ad489.add ((x5_1).toNat*3)).block,(ad489.add ((x5_1).toNat*3)).off+2,none⟩=some (.slice A489_2 ((xg_ l0 x5_1).f2).length c489_2)) (ds:=[]) bd02_0 (by kernel_rfl) rfl rfl ⟨(mx_ HB hw489_0),(mx_ HB hw489_1),(mx_ HB hw489_2)⟩ (fun hHeld=>?_);refine with_tabW zx_.tab4 zx_.bits4 (fun HT_ HW_=>?_);generalize wr.drew=w10 at HB HR489_2 hx489_0 hx489_1 hx489_2 hHeld ⊢;refine pu_ 0 12 bd02_1 (ze_ HT_.out (by kernel_rfl)) ?_;refine pu_ 1 13 bd02_2 (ze_ HT_.out (by kernel_rfl)) ?_;refine pu_ 2 14 bd02_3 (ze_ HT_.out (by kernel_rfl)) ?_;refine pu_ 3 15 bd02_4 (ze_ HT_.out (by kernel_rfl)) ?_;refine pu_ 5 17 bd02_5 (ze_ HT_.out (by kernel_rfl)) ?_;refine tk_ 4 16 bd02_6 (w6_ HT_.out HW_.out (by kernel_rfl)) hHeld ?_;refine one_ (i:=6) (N:=some 18) bd02_7 rfl rfl (one_of HT_.out (by kernel_rfl)) (by decide) (fun K hK=>?_);refine goes_ Tryz.func48 (by kernel_rfl) rfl #[.int .i64 x1_1] (by rfl) rfl rfl mw_ ?_;with_reducible refine (zi_.calls k1 x1_1 t490 _ A5.out).mono ?_
     rintro e w11 ⟨rfl,hb⟩;refine ⟨_,rfl,?_⟩;replace HB:=ms_ HB hb;(try clear hb);(try clear hb2);(try clear hk);(try clear hi);refine hK.out _ _ ⟨(mx_ HB hw489_0),(mx_ HB hw489_1),(mx_ HB hw489_2)⟩ (fun hHeld=>?_);clear hK K;refine nm_ 18 ?_;refine pu_ 7 19 bd02_8 (ze_ HT_.out (by kernel_rfl)) ?_;refine done_ (done_of HT_.out (by kernel_rfl)) ?_;have p491:0≤(x5_1:Int):=md_
     have q491:x5_1<(l0.length:Int):=md_
     obtain ⟨ad491,A491_2,c491_2,e491,hx491_0,hx491_1,hx491_2,hl491_2,hi491_2⟩:=at_T50 HR0.out x5_1 p491 q491;obtain rfl:ad489=ad491:=(by injection e491);replace hx491_0:=mx_ HB hx491_0;replace hx491_1:=mx_ HB hx491_1;replace hx491_2:=mx_ HB hx491_2;have HR491_2:=a_ hi491_2;have HC491_2:=a_ hl491_2;clear hi491_2 hl491_2;replace p491:=eq_true p491;replace q491:=eq_true q491;have p492:0≤(x5_1:Int):=md_
     have q492:x5_1<(l0.length:Int):=md_
     obtain ⟨ad492,A492_2,c492_2,e492,hx492_0,hx492_1,hx492_2,hl492_2,hi492_2⟩:=at_T50 HR0.out x5_1 p492 q492;obtain rfl:ad489=ad492:=(by injection e492);replace hx492_0:=mx_ HB hx492_0;replace hx492_1:=mx_ HB hx492_1;replace hx492_2:=mx_ HB hx492_2;have HR492_2:=a_ hi492_2;have HC492_2:=a_ hl492_2;clear hi492_2 hl492_2;replace p492:=eq_true p492;replace q492:=eq_true q492;have ea_:=Option.some.inj (hx491_2.symm.trans hx492_2);injection ea_ with ea_ en_ ec_
     subst ea_;subst ec_;clear en_;have eb_:=Option.some.inj (hx491_2.symm.trans (mx_ HB hw489_2));injection eb_ with ea_ en_ ec_
     subst ea_;subst ec_;clear en_;try go_wp2_with (first|((with_reducible refine zg_ (f:=99) rfl ?_);refine xf_ (some 37) rfl rfl Tryz.func99 (by kernel_rfl) rfl #[.slice A491_2 ((xg_ l0 x5_1).f2).length c491_2,.int .i64 (wrap64 ((wrap64 (x1_1+1))+1))] rfl mw_ ?_;(with_reducible refine (zh_.calls k1 _ _ ((xg_ l0 x5_1).f2) (wrap64 ((wrap64 (x1_1+1))+1)) t493 _ ?side1 HC492_2.out A8.out).mono ?_);(case side1=>exact mt_ HR492_2 HB);rintro e w12 ⟨rfl,hb⟩;refine ⟨_,rfl,?_⟩;replace HB:=ms_ HB hb;(try clear hb)))
     go_ret;exact ⟨me_,mb_ HB⟩
    ·rw [if_neg c9] at H;have c9b0:=cf_ c9;clear c9;have H':=a_ H;clear H;try go_wp2
     replace HB:=a_ (x2_ HB.out);have p489:0≤(x5_1:Int):=md_
     have q489:x5_1<(l0.length:Int):=md_
     obtain ⟨ad489,A489_2,c489_2,e489,hx489_0,hx489_1,hx489_2,hl489_2,hi489_2⟩:=at_T50 HR0.out x5_1 p489 q489;have hw489_2:=hx489_2;have hw489_1:=hx489_1;have hw489_0:=hx489_0;cases e489;replace hx489_0:=mx_ HB hx489_0;replace hx489_1:=mx_ HB hx489_1;replace hx489_2:=mx_ HB hx489_2;have HR489_2:=a_ hi489_2;have HC489_2:=a_ hl489_2;clear hi489_2 hl489_2;replace p489:=eq_true p489;replace q489:=eq_true q489;refine start_ (n:=8) (S:=fun w'=>w'.cell? (ad489.add ((x5_1).toNat*3))=some (.string ((xg_ l0 x5_1).f0))∧w'.cell? ⟨(ad489.add ((x5_1).toNat*3)).block,(ad489.add ((x5_1).toNat*3)).off+1,none⟩=some (.int .i64 ((xg_ l0 x5_1).f1))∧w'.cell? ⟨(ad489.add ((x5_1).toNat*3)).block,(ad489.add ((x5_1).toNat*3)).off+2,none⟩=some (.slice A489_2 ((xg_ l0 x5_1).f2).length c489_2)) (ds:=[]) bd02_0 (by kernel_rfl) rfl rfl ⟨(mx_ HB hw489_0),(mx_ HB hw489_1),(mx_ HB hw489_2)⟩ (fun hHeld=>?_);refine with_tabW zx_.tab4 zx_.bits4 (fun HT_ HW_=>?_);generalize wr.drew=w13 at HB HR489_2 hx489_0 hx489_1 hx489_2 hHeld ⊢;refine pu_ 0 12 bd02_1 (ze_ HT_.out (by kernel_rfl)) ?_;refine pu_ 1 13 bd02_2 (ze_ HT_.out (by kernel_rfl)) ?_;refine pu_ 2 14 bd02_3 (ze_ HT_.out (by kernel_rfl)) ?_;refine pu_ 3 15 bd02_4 (ze_ HT_.out (by kernel_rfl)) ?_;refine pu_ 5 17 bd02_5 (ze_ HT_.out (by kernel_rfl)) ?_;refine tk_ 4 16 bd02_6 (w6_ HT_.out HW_.out (by kernel_rfl)) hHeld ?_;refine one_ (i:=6) (N:=some 18) bd02_7 rfl rfl (one_of HT_.out (by kernel_rfl)) (by decide) (fun K hK=>?_);refine goes_ Tryz.func48 (by kernel_rfl) rfl #[.int .i64 x1_1] (by rfl) rfl rfl mw_ ?_;with_reducible refine (zi_.calls k1 x1_1 t490 _ A5.out).mono ?_
     rintro e w14 ⟨rfl,hb⟩;refine ⟨_,rfl,?_⟩;replace HB:=ms_ HB hb;(try clear hb);(try clear hb2);(try clear hk);(try clear hi);refine hK.out _ _ ⟨(mx_ HB hw489_0),(mx_ HB hw489_1),(mx_ HB hw489_2)⟩ (fun hHeld=>?_);clear hK K;refine nm_ 18 ?_;refine pu_ 7 19 bd02_8 (ze_ HT_.out (by kernel_rfl)) ?_;refine done_ (done_of HT_.out (by kernel_rfl)) ?_;have p491:0≤(x5_1:Int):=md_
     have q491:x5_1<(l0.length:Int):=md_
     obtain ⟨ad491,A491_2,c491_2,e491,hx491_0,hx491_1,hx491_2,hl491_2,hi491_2⟩:=at_T50 HR0.out x5_1 p491 q491;obtain rfl:ad489=ad491:=(by injection e491);replace hx491_0:=mx_ HB hx491_0;replace hx491_1:=mx_ HB hx491_1;replace hx491_2:=mx_ HB hx491_2;have HR491_2:=a_ hi491_2;have HC491_2:=a_ hl491_2;clear hi491_2 hl491_2;replace p491:=eq_true p491;replace q491:=eq_true q491;have p492:0≤(x5_1:Int):=md_
     have q492:x5_1<(l0.length:Int):=md_
     obtain ⟨ad492,A492_2,c492_2,e492,hx492_0,hx492_1,hx492_2,hl492_2,hi492_2⟩:=at_T50 HR0.out x5_1 p492 q492;obtain rfl:ad489=ad492:=(by injection e492);replace hx492_0:=mx_ HB hx492_0;replace hx492_1:=mx_ HB hx492_1;replace hx492_2:=mx_ HB hx492_2;have HR492_2:=a_ hi492_2;have HC492_2:=a_ hl492_2;clear hi492_2 hl492_2;replace p492:=eq_true p492;replace q492:=eq_true q492;have ea_:=Option.some.inj (hx491_2.symm.trans hx492_2);injection ea_ with ea_ en_ ec_
     subst ea_;subst ec_;clear en_;have eb_:=Option.some.inj (hx491_2.symm.trans (mx_ HB hw489_2));injection eb_ with ea_ en_ ec_
     subst ea_;subst ec_;clear en_;try go_wp2_with (first|((with_reducible refine zg_ (f:=99) rfl ?_);refine xf_ (some 37) rfl rfl Tryz.func99 (by kernel_rfl) rfl #[.slice A491_2 ((xg_ l0 x5_1).f2).length c491_2,.int .i64 (wrap64 ((wrap64 (x1_1+1))+1))] rfl mw_ ?_;(with_reducible refine (zh_.calls k1 _ _ ((xg_ l0 x5_1).f2) (wrap64 ((wrap64 (x1_1+1))+1)) t493 _ ?side1 HC492_2.out A8.out).mono ?_);(case side1=>exact mt_ HR492_2 HB);rintro e w15 ⟨rfl,hb⟩;refine ⟨_,rfl,?_⟩;replace HB:=ms_ HB hb;(try clear hb)))
     go_roundg k1
     case measure=>
      have:=HK1.out
      omega
     case rel=>exact ⟨(t493),(wrap64 (x5_1+1)),mq_,mq_,H',⟨by have:=HK1.out;omega⟩,⟨mb_ HB⟩⟩
   ·rw [if_neg c7] at H;obtain ⟨c7b0,c7b1⟩:=bn_ c7;obtain rfl:=oi_ H;try go_wp2
    replace HB:=a_ (x2_ HB.out);have p489:0≤(x5_1:Int):=md_
    have q489:x5_1<(l0.length:Int):=md_
    obtain ⟨ad489,A489_2,c489_2,e489,hx489_0,hx489_1,hx489_2,hl489_2,hi489_2⟩:=at_T50 HR0.out x5_1 p489 q489;have hw489_2:=hx489_2;have hw489_1:=hx489_1;have hw489_0:=hx489_0;cases e489;replace hx489_0:=mx_ HB hx489_0;replace hx489_1:=mx_ HB hx489_1;replace hx489_2:=mx_ HB hx489_2;have HR489_2:=a_ hi489_2;have HC489_2:=a_ hl489_2;clear hi489_2 hl489_2;replace p489:=eq_true p489;replace q489:=eq_true q489;refine start_ (n:=8) (S:=fun w'=>w'.cell? (ad489.add ((x5_1).toNat*3))=some (.string ((xg_ l0 x5_1).f0))∧w'.cell? ⟨(ad489.add ((x5_1).toNat*3)).block,(ad489.add ((x5_1).toNat*3)).off+1,none⟩=some (.int .i64 ((xg_ l0 x5_1).f1))∧w'.cell? ⟨(ad489.add ((x5_1).toNat*3)).block,(ad489.add ((x5_1).toNat*3)).off+2,none⟩=some (.slice A489_2 ((xg_ l0 x5_1).f2).length c489_2)) (ds:=[]) bd02_0 (by kernel_rfl) rfl rfl ⟨(mx_ HB hw489_0),(mx_ HB hw489_1),(mx_ HB hw489_2)⟩ (fun hHeld=>?_);refine with_tabW zx_.tab4 zx_.bits4 (fun HT_ HW_=>?_);generalize wr.drew=w16 at HB HR489_2 hx489_0 hx489_1 hx489_2 hHeld ⊢;refine pu_ 0 12 bd02_1 (ze_ HT_.out (by kernel_rfl)) ?_;refine pu_ 1 13 bd02_2 (ze_ HT_.out (by kernel_rfl)) ?_;refine pu_ 2 14 bd02_3 (ze_ HT_.out (by kernel_rfl)) ?_;refine pu_ 3 15 bd02_4 (ze_ HT_.out (by kernel_rfl)) ?_;refine pu_ 5 17 bd02_5 (ze_ HT_.out (by kernel_rfl)) ?_;refine tk_ 4 16 bd02_6 (w6_ HT_.out HW_.out (by kernel_rfl)) hHeld ?_;refine one_ (i:=6) (N:=some 18) bd02_7 rfl rfl (one_of HT_.out (by kernel_rfl)) (by decide) (fun K hK=>?_);refine goes_ Tryz.func48 (by kernel_rfl) rfl #[.int .i64 x1_1] (by rfl) rfl rfl mw_ ?_;with_reducible refine (zi_.calls k1 x1_1 t490 _ A5.out).mono ?_
    rintro e w17 ⟨rfl,hb⟩;refine ⟨_,rfl,?_⟩;replace HB:=ms_ HB hb;(try clear hb);(try clear hb2);(try clear hk);(try clear hi);refine hK.out _ _ ⟨(mx_ HB hw489_0),(mx_ HB hw489_1),(mx_ HB hw489_2)⟩ (fun hHeld=>?_);clear hK K;refine nm_ 18 ?_;refine pu_ 7 19 bd02_8 (ze_ HT_.out (by kernel_rfl)) ?_;refine done_ (done_of HT_.out (by kernel_rfl)) ?_;have p491:0≤(x5_1:Int):=md_
    have q491:x5_1<(l0.length:Int):=md_
    obtain ⟨ad491,A491_2,c491_2,e491,hx491_0,hx491_1,hx491_2,hl491_2,hi491_2⟩:=at_T50 HR0.out x5_1 p491 q491;obtain rfl:ad489=ad491:=(by injection e491);replace hx491_0:=mx_ HB hx491_0;replace hx491_1:=mx_ HB hx491_1;replace hx491_2:=mx_ HB hx491_2;have HR491_2:=a_ hi491_2;have HC491_2:=a_ hl491_2;clear hi491_2 hl491_2;replace p491:=eq_true p491;replace q491:=eq_true q491;try go_wp2
    go_ret;exact ⟨me_,mb_ HB⟩
  ·rw [if_neg c6] at H;obtain ⟨c6b0,c6b1⟩:=bn_ c6;obtain rfl:=oi_ H;try go_wp2
   replace HB:=a_ (x2_ HB.out);have p489:0≤(x5_1:Int):=md_
   have q489:x5_1<(l0.length:Int):=md_
   obtain ⟨ad489,A489_2,c489_2,e489,hx489_0,hx489_1,hx489_2,hl489_2,hi489_2⟩:=at_T50 HR0.out x5_1 p489 q489;have hw489_2:=hx489_2;have hw489_1:=hx489_1;have hw489_0:=hx489_0;cases e489;replace hx489_0:=mx_ HB hx489_0;replace hx489_1:=mx_ HB hx489_1;replace hx489_2:=mx_ HB hx489_2;have HR489_2:=a_ hi489_2;have HC489_2:=a_ hl489_2;clear hi489_2 hl489_2;replace p489:=eq_true p489;replace q489:=eq_true q489;refine start_ (n:=8) (S:=fun w'=>w'.cell? (ad489.add ((x5_1).toNat*3))=some (.string ((xg_ l0 x5_1).f0))∧w'.cell? ⟨(ad489.add ((x5_1).toNat*3)).block,(ad489.add ((x5_1).toNat*3)).off+1,none⟩=some (.int .i64 ((xg_ l0 x5_1).f1))∧w'.cell? ⟨(ad489.add ((x5_1).toNat*3)).block,(ad489.add ((x5_1).toNat*3)).off+2,none⟩=some (.slice A489_2 ((xg_ l0 x5_1).f2).length c489_2)) (ds:=[]) bd02_0 (by kernel_rfl) rfl rfl ⟨(mx_ HB hw489_0),(mx_ HB hw489_1),(mx_ HB hw489_2)⟩ (fun hHeld=>?_);refine with_tabW zx_.tab4 zx_.bits4 (fun HT_ HW_=>?_);generalize wr.drew=w18 at HB HR489_2 hx489_0 hx489_1 hx489_2 hHeld ⊢;refine pu_ 0 12 bd02_1 (ze_ HT_.out (by kernel_rfl)) ?_;refine pu_ 1 13 bd02_2 (ze_ HT_.out (by kernel_rfl)) ?_;refine pu_ 2 14 bd02_3 (ze_ HT_.out (by kernel_rfl)) ?_;refine pu_ 3 15 bd02_4 (ze_ HT_.out (by kernel_rfl)) ?_;refine pu_ 5 17 bd02_5 (ze_ HT_.out (by kernel_rfl)) ?_;refine tk_ 4 16 bd02_6 (w6_ HT_.out HW_.out (by kernel_rfl)) hHeld ?_;refine one_ (i:=6) (N:=some 18) bd02_7 rfl rfl (one_of HT_.out (by kernel_rfl)) (by decide) (fun K hK=>?_);refine goes_ Tryz.func48 (by kernel_rfl) rfl #[.int .i64 x1_1] (by rfl) rfl rfl mw_ ?_;with_reducible refine (zi_.calls k1 x1_1 t490 _ A5.out).mono ?_
   rintro e w19 ⟨rfl,hb⟩;refine ⟨_,rfl,?_⟩;replace HB:=ms_ HB hb;(try clear hb);(try clear hb2);(try clear hk);(try clear hi);refine hK.out _ _ ⟨(mx_ HB hw489_0),(mx_ HB hw489_1),(mx_ HB hw489_2)⟩ (fun hHeld=>?_);clear hK K;refine nm_ 18 ?_;refine pu_ 7 19 bd02_8 (ze_ HT_.out (by kernel_rfl)) ?_;refine done_ (done_of HT_.out (by kernel_rfl)) ?_;try go_wp2
   go_ret;exact ⟨me_,mb_ HB⟩
 ·rw [if_neg c3] at H;have c3b0:=cf_ c3;clear c3;obtain rfl:=oi_ H;go_wp2;go_ret;exact ⟨me_,mb_ HB⟩
def yn_.l0:Nat→List Int→Int→Int→Option (Int)
 | 0,_,_,_=>none
 | k+1,x0,x1,x5=>if x5<(x0.length:Int) then (if 0≤x5 then (if (rd x0 x5)=x1 then (yn_.l0 k x0 (wrap64 (x1+1)) (wrap64 (x5+1))) else (some (-1))) else (none)) else (some x1)
def yn_.f (k:Nat) (l0:List Int) (a1:Int):Option (Int):=yn_.l0 k l0 a1 0
theorem yn_.y6_:∀k,(∀y0 y1 y2,LeO (yn_.l0 k y0 y1 y2) (yn_.l0 (k+1) y0 y1 y2))
 | 0=>fun _ _ _ r h=>by simp [yn_.l0] at h
 | k+1=>by
  have ih0:=yn_.y6_ k
  ·intro y0 y1 y2;unfold yn_.l0
   repeat' with_reducible first|apply ih0|apply LeO.refl|apply LeO.none|refine LeO.ite ?_ ?_|refine LeO.bind ?_ (fun _=>?_)
theorem yn_.mono:∀a0 a1 k,LeO (yn_.f k a0 a1) (yn_.f (k+1) a0 a1):=by
 intro a0 a1 k;have ih0:=yn_.y6_ k;unfold yn_.f
 repeat' with_reducible first|apply ih0|apply LeO.refl|apply LeO.none|refine LeO.ite ?_ ?_|refine LeO.bind ?_ (fun _=>?_)
set_option maxHeartbeats 8000000 in
set_option maxRecDepth 100000 in
theorem yn_.calls (k:Nat) (A0:Option Addr) (c0:Nat) (l0:List Int) (a1:Int) (r:Int) (w:World) (hr0:Kd.C (Kd.int .i64) w A0 l0.length l0) (hc0:l0.length≤c0) (h:yn_.f k l0 a1=some r):
  Calls Tryz.prog 100 #[.slice A0 l0.length c0,.int .i64 a1] w fun e w'=>e=.returned (.int .i64 r)∧x4_ w w':=by
 have HR0:=a_ hr0;have HC0:=a_ hc0;clear hr0 hc0;have H:(yn_.l0 k l0 a1 0)=some r:=h
 clear h;have H':=a_ H;clear H;go_enter Tryz.func100,Tryz.ntmps100;go_wp2;go_loopg [1,5] k (fun kq v1 v5 w'=>∃(x1_1:Int) (x5_1:Int),v1=.int .i64 x1_1∧v5=.int .i64 x5_1∧z0_ (yn_.l0 kq l0 x1_1 x5_1=some r)∧z0_ (kq≤k)∧x4_ w w')
 case atStart=>exact ⟨(a1),(0),mq_,mq_,H',⟨Nat.le_refl _⟩,by repeat (first|exact x4_.refl _|apply x4_.step)⟩
 clear H';obtain ⟨x1_1,x5_1,rfl,rfl,HA,HK1,⟨m1,rfl⟩⟩:=hrel;obtain _|k1:=gk
 ·exact absurd HA.out (by simp [yn_.l0])
 have H:=HA.out;clear HA;simp only [yn_.l0] at H;by_cases c3:x5_1<(l0.length:Int)
 ·rw [if_pos c3] at H;have c3b0:=ct_ c3;clear c3;by_cases c4:0≤x5_1
  case neg=>
   rw [if_neg c4] at H;cases H
  rw [if_pos c4] at H;have c4b0:=ct_ c4;clear c4;by_cases c5:(rd l0 x5_1)=x1_1
  ·rw [if_pos c5] at H;obtain ⟨c5b0,c5b1⟩:=bq_ c5;clear c5;have H':=a_ H;clear H;have p494:0≤(x5_1:Int):=md_
   have q494:x5_1<(l0.length:Int):=md_
   obtain ⟨ad494,e494,hx494_0⟩:=Kd.at_int HR0.out x5_1 p494 q494;cases e494;replace p494:=eq_true p494;replace q494:=eq_true q494;go_wp2;go_roundg k1
   case measure=>
    have:=HK1.out
    omega
   case rel=>exact ⟨(wrap64 (x1_1+1)),(wrap64 (x5_1+1)),mq_,mq_,H',⟨by have:=HK1.out;omega⟩,by repeat (first|exact x4_.refl _|apply x4_.step)⟩
  ·rw [if_neg c5] at H;obtain ⟨c5b0,c5b1⟩:=bn_ c5;obtain rfl:=oi_ H;have p494:0≤(x5_1:Int):=md_
   have q494:x5_1<(l0.length:Int):=md_
   obtain ⟨ad494,e494,hx494_0⟩:=Kd.at_int HR0.out x5_1 p494 q494;cases e494;replace p494:=eq_true p494;replace q494:=eq_true q494;go_wp2;go_ret;exact ⟨by first|rfl|(simp;done)|(simp [*];done),by repeat (first|exact x4_.refl _|apply x4_.step)⟩
 ·rw [if_neg c3] at H;have c3b0:=cf_ c3;clear c3;obtain rfl:=oi_ H;go_wp2;go_ret;exact ⟨by first|rfl|(simp;done)|(simp [*];done),by repeat (first|exact x4_.refl _|apply x4_.step)⟩
def yp_.l0:Nat→List (List Int)→Int→Int→Option (Int)
 | 0,_,_,_=>none
 | k+1,x0,x1,x5=>if x5<(x0.length:Int) then (if 0≤x5 then ((yn_.f k (rd_L9 x0 x5) x1).bind fun t496=>(if t496<0 then (some (-1)) else (yp_.l0 k x0 t496 (wrap64 (x5+1))))) else (none)) else (some x1)
def yp_.f (k:Nat) (l0:List (List Int)) (a1:Int):Option (Int):=yp_.l0 k l0 a1 0
theorem yp_.y6_:∀k,(∀y0 y1 y2,LeO (yp_.l0 k y0 y1 y2) (yp_.l0 (k+1) y0 y1 y2))
 | 0=>fun _ _ _ r h=>by simp [yp_.l0] at h
 | k+1=>by
  have ih0:=yp_.y6_ k
  ·intro y0 y1 y2;unfold yp_.l0
   repeat' with_reducible first|apply ih0|apply yn_.mono|apply LeO.refl|apply LeO.none|refine LeO.ite ?_ ?_|refine LeO.bind ?_ (fun _=>?_)
theorem yp_.mono:∀a0 a1 k,LeO (yp_.f k a0 a1) (yp_.f (k+1) a0 a1):=by
 intro a0 a1 k;have ih0:=yp_.y6_ k;unfold yp_.f
 repeat' with_reducible first|apply ih0|apply yn_.mono|apply LeO.refl|apply LeO.none|refine LeO.ite ?_ ?_|refine LeO.bind ?_ (fun _=>?_)
set_option maxHeartbeats 8000000 in
set_option maxRecDepth 100000 in
theorem yp_.calls (k:Nat) (A0:Option Addr) (c0:Nat) (l0:List (List Int)) (a1:Int) (r:Int) (w:World) (hr0:Kd.C (Kd.slice 3 (Kd.int .i64)) w A0 l0.length l0) (hc0:l0.length≤c0) (h:yp_.f k l0 a1=some r):
  Calls Tryz.prog 58 #[.slice A0 l0.length c0,.int .i64 a1] w fun e w'=>e=.returned (.int .i64 r)∧x4_ w w':=by
 have HR0:=a_ hr0;have HC0:=a_ hc0;clear hr0 hc0;have H:(yp_.l0 k l0 a1 0)=some r:=h
 clear h;have H':=a_ H;clear H;go_enter Tryz.func58,Tryz.ntmps58;go_wp2;go_loopg [1,5] k (fun kq v1 v5 w'=>∃(x1_1:Int) (x5_1:Int),v1=.int .i64 x1_1∧v5=.int .i64 x5_1∧z0_ (yp_.l0 kq l0 x1_1 x5_1=some r)∧z0_ (kq≤k)∧x4_ w w')
 case atStart=>exact ⟨(a1),(0),mq_,mq_,H',⟨Nat.le_refl _⟩,by repeat (first|exact x4_.refl _|apply x4_.step)⟩
 clear H';obtain ⟨x1_1,x5_1,rfl,rfl,HA,HK1,⟨m1,rfl⟩⟩:=hrel;obtain _|k1:=gk
 ·exact absurd HA.out (by simp [yp_.l0])
 have H:=HA.out;clear HA;simp only [yp_.l0] at H;by_cases c3:x5_1<(l0.length:Int)
 ·rw [if_pos c3] at H;have c3b0:=ct_ c3;clear c3;by_cases c4:0≤x5_1
  case neg=>
   rw [if_neg c4] at H;cases H
  rw [if_pos c4] at H;have c4b0:=ct_ c4;clear c4;obtain ⟨t496,A5,H⟩:=ob_ H;by_cases c6:t496<0
  ·rw [if_pos c6] at H;have c6b0:=ct_ c6;clear c6;obtain rfl:=oi_ H;have p495:0≤(x5_1:Int):=md_
   have q495:x5_1<(l0.length:Int):=md_
   obtain ⟨ad495,A495_0,c495_0,e495,hx495_0,hl495_0,hi495_0⟩:=at_L9 HR0.out x5_1 p495 q495;cases e495;have HR495_0:=a_ hi495_0;have HC495_0:=a_ hl495_0;clear hi495_0 hl495_0;replace p495:=eq_true p495;replace q495:=eq_true q495;go_wp2_with (first|((with_reducible refine zg_ (f:=100) rfl ?_);refine xf_ (some 17) rfl rfl Tryz.func100 (by kernel_rfl) rfl #[.slice A495_0 (rd_L9 l0 x5_1).length c495_0,.int .i64 x1_1] rfl mw_ ?_;(with_reducible refine (yn_.calls k1 _ _ (rd_L9 l0 x5_1) x1_1 t496 _ ?side1 HC495_0.out A5.out).mono ?_);(case side1=>repeat (first|exact HR495_0.out|(with_reducible refine Kd.C_alloc ?_ _)|(with_reducible refine Kd.C_drewN ?_ _)|(with_reducible refine Kd.C_drew ?_)));rintro e w' ⟨rfl,⟨nd,rfl⟩⟩;refine ⟨_,rfl,?_⟩));go_ret;exact ⟨by first|rfl|(simp;done)|(simp [*];done),by repeat (first|exact x4_.refl _|apply x4_.step)⟩
  ·rw [if_neg c6] at H;have c6b0:=cf_ c6;clear c6;have H':=a_ H;clear H;have p495:0≤(x5_1:Int):=md_
   have q495:x5_1<(l0.length:Int):=md_
   obtain ⟨ad495,A495_0,c495_0,e495,hx495_0,hl495_0,hi495_0⟩:=at_L9 HR0.out x5_1 p495 q495;cases e495;have HR495_0:=a_ hi495_0;have HC495_0:=a_ hl495_0;clear hi495_0 hl495_0;replace p495:=eq_true p495;replace q495:=eq_true q495;go_wp2_with (first|((with_reducible refine zg_ (f:=100) rfl ?_);refine xf_ (some 17) rfl rfl Tryz.func100 (by kernel_rfl) rfl #[.slice A495_0 (rd_L9 l0 x5_1).length c495_0,.int .i64 x1_1] rfl mw_ ?_;(with_reducible refine (yn_.calls k1 _ _ (rd_L9 l0 x5_1) x1_1 t496 _ ?side1 HC495_0.out A5.out).mono ?_);(case side1=>repeat (first|exact HR495_0.out|(with_reducible refine Kd.C_alloc ?_ _)|(with_reducible refine Kd.C_drewN ?_ _)|(with_reducible refine Kd.C_drew ?_)));rintro e w' ⟨rfl,⟨nd,rfl⟩⟩;refine ⟨_,rfl,?_⟩));go_roundg k1
   case measure=>
    have:=HK1.out
    omega
   case rel=>exact ⟨(t496),(wrap64 (x5_1+1)),mq_,mq_,H',⟨by have:=HK1.out;omega⟩,by repeat (first|exact x4_.refl _|apply x4_.step)⟩
 ·rw [if_neg c3] at H;have c3b0:=cf_ c3;clear c3;obtain rfl:=oi_ H;go_wp2;go_ret;exact ⟨by first|rfl|(simp;done)|(simp [*];done),by repeat (first|exact x4_.refl _|apply x4_.step)⟩
def laws_heldNet.f (k:Nat) (l0_0:List (S50)) (l0_1:List (List Int)) (a1:Int):Option (Int):=(zx_.f k l0_0 a1).bind fun t498=>(if t498<0 then (some (-1)) else ((yp_.f k l0_1 t498).bind fun t499=>(if t499<0 then (some (-1)) else (some t499))))
theorem laws_heldNet.mono:∀a0 a1 a2 k,LeO (laws_heldNet.f k a0 a1 a2) (laws_heldNet.f (k+1) a0 a1 a2):=by
 intro a0 a1 a2 k;unfold laws_heldNet.f
 repeat' with_reducible first|apply zx_.mono|apply yp_.mono|apply LeO.refl|apply LeO.none|refine LeO.ite ?_ ?_|refine LeO.bind ?_ (fun _=>?_)
theorem ub68_0 {p:Prop} (h:p:=by
 obtain rfl:=oi_ H;go_enter Tryz.func24,Tryz.ntmps24;go_wp2_with (first|((with_reducible refine zl_ (N:=2) rfl ?_);refine bh_ 2 #[.slice A0_0 l0_0.length c0_0,.slice A0_1 l0_1.length c0_1] 32 HB ?_;intro gb497 hg wx BK497 GE497 hb;replace HB:=ms_ HB hb;clear hb hg;replace hz497:=cz2 BK497)|((with_reducible refine zg_ (f:=57) rfl ?_);refine xf_ (some 8) rfl rfl Tryz.func57 (by kernel_rfl) rfl #[.slice A0_0 l0_0.length c0_0,.int .i64 a1] rfl mw_ ?_;(with_reducible refine (zx_.calls k _ _ l0_0 a1 t498 _ ?side1 HC0_0.out A3.out).mono ?_);(case side1=>exact mt_ HR0_0 HB);rintro e wx ⟨rfl,hb⟩;refine ⟨_,rfl,?_⟩;replace BK497:=mk_ BK497 hb;replace HB:=ms_ HB hb;(try clear hb);replace hz497:=cz2 BK497)|((with_reducible refine zg_ (f:=58) rfl ?_);refine xf_ (some 14) rfl rfl Tryz.func58 (by kernel_rfl) rfl #[.slice A0_1 l0_1.length c0_1,.int .i64 t498] rfl mw_ ?_;(with_reducible refine (yp_.calls k _ _ l0_1 t498 t499 _ ?side1 HC0_1.out A8.out).mono ?_);(case side1=>exact mt_ HR0_1 HB);rintro e w' ⟨rfl,⟨nd,rfl⟩⟩;refine ⟨_,rfl,?_⟩));go_ret;exact ⟨me_,mb_ HB⟩):p:=h
set_option maxHeartbeats 8000000 in
set_option maxRecDepth 100000 in
theorem laws_heldNet.calls (k:Nat) (A0_0:Option Addr) (c0_0:Nat) (l0_0:List (S50)) (A0_1:Option Addr) (c0_1:Nat) (l0_1:List (List Int)) (a1:Int) (r:Int) (w:World) (hr0_0:Kd.C k50 w A0_0 l0_0.length l0_0) (hc0_0:l0_0.length≤c0_0) (hr0_1:Kd.C (Kd.slice 3 (Kd.int .i64)) w A0_1 l0_1.length l0_1) (hc0_1:l0_1.length≤c0_1) (h:laws_heldNet.f k l0_0 l0_1 a1=some r):
  Calls Tryz.prog 24 #[.agg #[.slice A0_0 l0_0.length c0_0,.slice A0_1 l0_1.length c0_1],.int .i64 a1] w fun e w'=>e=.returned (.int .i64 r)∧Below w.heap.size w w':=by
 have hu32:=Tryz.underlying32;have HR0_0:=a_ hr0_0;have HC0_0:=a_ hc0_0;clear hr0_0 hc0_0;have HR0_1:=a_ hr0_1;have HC0_1:=a_ hc0_1;clear hr0_1 hc0_1;have HB:=a_ (Below.refl w.heap.size w);have H:=h;unfold laws_heldNet.f at H
 clear h;obtain ⟨t498,A3,H⟩:=ob_ H;by_cases c4:t498<0
 ·rw [if_pos c4] at H;have c4b0:=ct_ c4;clear c4;exact ub68_0
 ·rw [if_neg c4] at H;have c4b0:=cf_ c4;clear c4;obtain ⟨t499,A8,H⟩:=ob_ H;by_cases c9:t499<0
  ·rw [if_pos c9] at H;have c9b0:=ct_ c9;clear c9;exact ub68_0
  ·rw [if_neg c9] at H;have c9b0:=cf_ c9;clear c9;exact ub68_0
end Go.Proofs.YtahambloheoebaaGreatDoor.P
namespace Go.Proofs.YtahambloheoebaaGreatDoor.Pure
open Go.RowKit Go.Proofs.YtahambloheoebaaGreatDoor.P Go.Proofs.YtahambloheoebaaGreatDoorW.PrintWords Go.Proofs.YtahambloheoebaaGreatDoorW.PrintLast Go.Proofs.YtahambloheoebaaGreatDoorX
theorem strOfNums_one (c:Int):(strOfNums [c]).size=1:=rfl
theorem markText_loop:∀(n:Nat) (x:Int) (s:ByteArray),0≤x→x≤9223372036854775807→x<10 ^ n→s.size+n<1000→∃r,zi_.l0 (n+1) x s=some r
 | 0,x,s,h0,_,h1,hs=>by
  simp only [zi_.l0];rw [if_neg (by omega),if_pos (by omega)];exact ⟨_,rfl⟩
 | n+1,x,s,h0,h2,h1,hs=>by
  rw [Int.pow_succ] at h1;unfold zi_.l0
  by_cases c:x>0
  ·rw [if_pos c]
   have hd:wrap64 (Int.tdiv x 10)=x / 10:=by
    rw [Int.tdiv_eq_ediv_of_nonneg h0];unfold wrap64
    omega
   rw [hd];simp only [Option.bind_some];rw [if_pos (by rw [strOfNums_one];omega)];refine markText_loop n (x / 10) _ (by omega) (by omega) ?_ ?_
   ·exact Int.ediv_lt_of_lt_mul (by omega) h1
   ·rw [ByteArray.size_append,strOfNums_one];omega
  ·rw [if_neg c,if_pos (by omega)];exact ⟨_,rfl⟩
def mtxt (a:Int):ByteArray:=(zi_.f 20 a).getD ⟨#[]⟩
theorem mark_text (a:Int) (h0:0≤a) (h1:a≤9223372036854775807):Ev (fun k=>zi_.f k a) (mtxt a):=by
 have:∃r,zi_.f 20 a=some r:=by
  unfold zi_.f
  split
  ·exact ⟨_,rfl⟩
  ·exact markText_loop 19 a _ h0 h1 (by omega) (by decide)
 obtain ⟨r,hr⟩:=this;have e:mtxt a=r:=by unfold mtxt;rw [hr];rfl
 rw [e];exact Ev.of (fun k=>zi_.mono a k) hr
theorem text20 (a:Int) (h0:0≤a) (h1:a≤9223372036854775807):zi_.f 20 a=some (mtxt a):=by
 have:∃r,zi_.f 20 a=some r:=by
  unfold zi_.f
  split
  ·exact ⟨_,rfl⟩
  ·exact markText_loop 19 a _ h0 h1 (by omega) (by decide)
 obtain ⟨r,hr⟩:=this;have e:mtxt a=r:=by unfold mtxt;rw [hr];rfl
 rw [e];exact hr
def NoSl (v:Value):Prop:=∀A n c,v≠.slice A n c
def Sc (S:Nat→Prop) (w w':World):Prop:=(∀p v,w.cell? p=some v→∃v',w'.cell? p=some v'∧(NoSl v∨v'=v))∧(∀p v,w.cell? p=some v→w'.frozen? p=w.frozen? p)∧Kept w w' S
def ScP (S:Nat→Prop) (w:World) (p:Addr):Prop:=S p.block∧∃v,w.cell? p=some v∧NoSl v
theorem Sc.refl (S:Nat→Prop) (w:World):Sc S w w:=⟨fun p v h=>⟨v,h,.inr rfl⟩,fun _ _ _=>rfl,Kept.refl _ _⟩
theorem Sc.below {S:Nat→Prop} {w w1 w2:World} (h:Sc S w w1) (hb:Below w1.heap.size w1 w2):Sc S w w2:=by
 refine ⟨fun p v hp=>?_,fun p v hp=>?_,Kept.below h.2.2 hb⟩
 ·obtain ⟨v',h1,h2⟩:=h.1 p v hp;exact ⟨v',(hb.cell (World.block_lt_of_cell? w1 p h1)).trans h1,h2⟩
 ·obtain ⟨v',h1,_⟩:=h.1 p v hp;exact (hb.frozen (World.block_lt_of_cell? w1 p h1)).trans (h.2.1 p v hp)
theorem Sc.set {S:Nat→Prop} {w w1:World} {p:Addr} (h:Sc S w w1) (hp:ScP S w p) (u:Value):Sc S w (w1.setCell p u):=by
 obtain ⟨hs,v0,hv0,hn⟩:=hp;refine ⟨fun q v hq=>?_,fun q v hq=>?_,Kept.setCell h.2.2 (.inl hs) u⟩
 ·obtain ⟨v',h1,h2⟩:=h.1 q v hq;by_cases e:p=q
  ·subst e;rw [hv0] at hq;have hq:=Option.some.inj hq;subst hq;exact ⟨u,World.cell?_setCell_same w1 p u h1,.inl hn⟩
  ·exact ⟨v',(World.cell?_setCell_other w1 p q u e).trans h1,h2⟩
 ·rw [World.frozen?_setCell];exact h.2.1 q v hq
theorem Sc.at_ {S:Nat→Prop} {w w1:World} {p:Addr} {v:Value} (h:Sc S w w1) (hp:w.cell? p=some v):∃u,w1.cell? p=some u:=by
 obtain ⟨u,h1,_⟩:=h.1 p v hp;exact ⟨u,h1⟩
theorem Sc.fz {S:Nat→Prop} {w w1:World} {p:Addr} {v:Value} (h:Sc S w w1) (hp:w.cell? p=some v) (hf:w.frozen? p=false):w1.frozen? p=false:=(h.2.1 p v hp).trans hf
theorem Sc.sl {S:Nat→Prop} {w w1:World} {p:Addr} {A:Option Addr} {n c:Nat} (h:Sc S w w1) (hp:w.cell? p=some (.slice A n c)):w1.cell? p=some (.slice A n c):=by
 obtain ⟨u,h1,h2⟩:=h.1 p _ hp;rcases h2 with h2|h2
 ·exact absurd rfl (h2 A n c)
 ·rw [h2] at h1;exact h1
section
variable {S:Nat→Prop} {w x y:World}
theorem msc_ (h:z0_ (Sc S w x)) (f:Sc S w x→Sc S w y:=by intro h;repeat (first|exact h|refine Sc.set ?_ (z0_.out (by assumption)) _)):Sc S w y:=f h.out
end
def cnS {α : Type} (c : α→Nat) (l:List α):Nat:=(l.map c).sum
theorem cnS_take {α : Type} (c : α→Nat) (z : α) (l:List α) (i:Nat) (h:i<l.length):cnS c (l.take (i+1))=cnS c (l.take i)+c (l.getD i z):=by
 unfold cnS
 rw [List.take_succ_eq_append_getElem h,List.map_append,List.sum_append];simp [List.getD_eq_getElem?_getD,h]
theorem cnS_le {α : Type} (c : α→Nat) (l:List α) (i:Nat):cnS c (l.take i)≤cnS c l:=by
 have:=List.take_append_drop i l
 have h:cnS c l=cnS c (l.take i)+cnS c (l.drop i):=by
  unfold cnS;rw [←List.sum_append,←List.map_append,this]
 omega
def c_int (x:Int):Nat:=1
set_option maxHeartbeats 4000000 in
set_option maxRecDepth 100000 in
theorem sc_markIntS (wl w0 w:World) (S:Nat→Prop) (ok:Nat→Prop) (v:Value) (l:List Int) (a:Int) (hR:Kd.R (Kd.int .i64) 3 w0 wl.heap.size ok v l) (hok:∀k,ok k→S k) (hS:Sc S w0 w) (hB:Below wl.heap.size wl w) (ha0:0≤a) (ha:a+(cnS c_int l:Int)≤1099511627776) (hl:l.length≤9223372036854775807):
  Calls Tryz.prog 95 #[v,.int .i64 a] w fun e w'=>e=.returned (.int .i64 (a+(cnS c_int l:Int)))∧Sc S w0 w'∧Below wl.heap.size wl w':=by
 obtain ⟨A,c,ev⟩:=Kd.yv_ hR;subst ev;have HR:=a_ hR;have HOK:=a_ hok;have SC:=a_ hS;have HB:=a_ hB;have HA:=a_ ha;have HZ:z0_ (a+(cnS c_int (l.take 0):Int)=a):=⟨by simp [cnS]⟩
 have HL:=a_ hl;clear hR hok hS hB ha hl;go_enter Tryz.func95,Tryz.ntmps95;go_wp2;go_loopg [1,5] l.length (fun gg v1 v5 wr=>∃(i:Nat) (b:Int),i≤l.length∧l.length-i≤gg∧0≤b∧v1=.int .i64 b∧v5=.int .i64 (i:Int)∧z0_ (a+(cnS c_int (l.take i):Int)=b)∧z0_ (Sc S w0 wr)∧z0_ (Below wl.heap.size wl wr))
 case atStart=>exact ⟨0,a,Nat.zero_le _,Nat.sub_le _ _,ha0,rfl,rfl,HZ,SC,HB⟩
 clear HZ SC HB ha0;obtain ⟨i,b,hi,hgg,hb0,rfl,rfl,HC,SC,HB⟩:=hrel;by_cases hlt:i<l.length
 ·have hz:(i:Int)<(l.length:Int):=by omega
  have hz0:(0:Int)≤(i:Int):=by omega
  have hz1:(i:Int)≤9223372036854775806:=by have:=HL.out;omega
  have hcn:=cnS_take c_int 0 l i hlt;have hcl:=cnS_le c_int l (i+1);have hb1:b+(c_int (l.getD i 0):Int)≤1099511627776:=by have:=HA.out;have:=HC.out;omega
  have HCN:z0_ (a+(cnS c_int (l.take (i+1)):Int)=b+(c_int (l.getD i 0):Int)):=⟨by have:=HC.out;omega⟩
  obtain ⟨g,cap,ev,hgb,_,_⟩:=Kd.R_form HR.out (by omega);injection ev with eA _ ec
  subst eA;subst ec;obtain ⟨cc,_,hM,hcc,hff⟩:=Kd.R_elem HR.out 0 (i:Int) hz0 hz;rw [Int.toNat_natCast] at hM hcc hff;have HG:=a_ hgb;have HSG:z0_ (S g):=⟨HOK.out g (HR.out.1 g (by simp [Value.ownBlock]))⟩
  have hM:cc=[.int .i64 (l.getD i 0)]:=hM
  subst hM;generalize l.getD i 0=x at *;have K0:z0_ (w0.cell? ⟨g,i,none⟩=some (.int .i64 x)):=⟨by have:=hcc 0 _ rfl;simpa [show (Kd.int .i64).sz=1 from rfl] using this⟩
  have Q0:z0_ (w0.frozen? ⟨g,i,none⟩=false):=⟨by have:=hff 0;simpa [show (Kd.int .i64).sz=1 from rfl] using this⟩
  have P0:z0_ (ScP S w0 ⟨g,i,none⟩):=⟨⟨HSG.out,_,K0.out,fun _ _ _ h=>by cases h⟩⟩
  have hbb:b≤1099511627776:=by omega
  have HBX:=a_ hb1;clear hcc hff hcn hcl hlt hgb hb1;obtain ⟨u0,h0⟩:=Sc.at_ SC.out K0.out;have f0:=Sc.fz SC.out K0.out Q0.out;go_wp2;go_roundg (l.length-(i+1))
  case measure=>omega
  case rel=>exact ⟨i+1,_,by omega,Nat.le_refl _,by omega,rfl,by go_num,⟨by rw [HCN.out];unfold c_int;omega⟩,⟨msc_ SC⟩,⟨mb_ HB⟩⟩
 ·have hil:i=l.length:=by omega
  subst hil;have hnl:¬((l.length:Nat):Int)<((l.length:Nat):Int):=by omega
  have hc:=HC.out;rw [List.take_length] at hc;have HC2:=a_ hc;clear hc HC hlt;go_wp2;go_ret;exact ⟨congrArg (fun z=>Ending.returned (.int .i64 z)) HC2.out.symm,SC.out,HB.out⟩
def c_Term (x:S86):Nat:=6
set_option maxHeartbeats 4000000 in
set_option maxRecDepth 100000 in
theorem sc_markTermS (wl w0 w:World) (S:Nat→Prop) (ok:Nat→Prop) (v:Value) (l:List S86) (a:Int) (hR:Kd.R k86 86 w0 wl.heap.size ok v l) (hok:∀k,ok k→S k) (hS:Sc S w0 w) (hB:Below wl.heap.size wl w) (ha0:0≤a) (ha:a+(cnS c_Term l:Int)≤1099511627776) (hl:l.length≤9223372036854775807):
  Calls Tryz.prog 94 #[v,.int .i64 a] w fun e w'=>e=.returned (.int .i64 (a+(cnS c_Term l:Int)))∧Sc S w0 w'∧Below wl.heap.size wl w':=by
 obtain ⟨A,c,ev⟩:=Kd.yv_ hR;subst ev;have HR:=a_ hR;have HOK:=a_ hok;have SC:=a_ hS;have HB:=a_ hB;have HA:=a_ ha;have HZ:z0_ (a+(cnS c_Term (l.take 0):Int)=a):=⟨by simp [cnS]⟩
 have HL:=a_ hl;have hu:=Tryz.underlying86;have hu1:=Tryz.underlying80;clear hR hok hS hB ha hl;go_enter Tryz.func94,Tryz.ntmps94;go_wp2;go_loopg [1,5] l.length (fun gg v1 v5 wr=>∃(i:Nat) (b:Int),i≤l.length∧l.length-i≤gg∧0≤b∧v1=.int .i64 b∧v5=.int .i64 (i:Int)∧z0_ (a+(cnS c_Term (l.take i):Int)=b)∧z0_ (Sc S w0 wr)∧z0_ (Below wl.heap.size wl wr))
 case atStart=>exact ⟨0,a,Nat.zero_le _,Nat.sub_le _ _,ha0,rfl,rfl,HZ,SC,HB⟩
 clear HZ SC HB ha0;obtain ⟨i,b,hi,hgg,hb0,rfl,rfl,HC,SC,HB⟩:=hrel;by_cases hlt:i<l.length
 ·have hz:(i:Int)<(l.length:Int):=by omega
  have hz0:(0:Int)≤(i:Int):=by omega
  have hz1:(i:Int)≤9223372036854775806:=by have:=HL.out;omega
  have hcn:=cnS_take c_Term z86 l i hlt;have hcl:=cnS_le c_Term l (i+1);have hb1:b+(c_Term (l.getD i z86):Int)≤1099511627776:=by have:=HA.out;have:=HC.out;omega
  have HCN:z0_ (a+(cnS c_Term (l.take (i+1)):Int)=b+(c_Term (l.getD i z86):Int)):=⟨by have:=HC.out;omega⟩
  obtain ⟨g,cap,ev,hgb,_,_⟩:=Kd.R_form HR.out (by omega);injection ev with eA _ ec
  subst eA;subst ec;obtain ⟨cc,_,hM,hcc,hff⟩:=Kd.R_elem HR.out z86 (i:Int) hz0 hz;rw [Int.toNat_natCast] at hM hcc hff;have HG:=a_ hgb;have HSG:z0_ (S g):=⟨HOK.out g (HR.out.1 g (by simp [Value.ownBlock]))⟩
  obtain rfl:=k86_openM hM;generalize l.getD i z86=x at *;have K0:z0_ (w0.cell? ⟨g,i*6,none⟩=some (.int .i64 x.f0)):=⟨by have:=hcc 0 _ rfl;simpa [show k86.sz=6 from rfl] using this⟩
  have Q0:z0_ (w0.frozen? ⟨g,i*6,none⟩=false):=⟨by have:=hff 0;simpa [show k86.sz=6 from rfl] using this⟩
  have P0:z0_ (ScP S w0 ⟨g,i*6,none⟩):=⟨⟨HSG.out,_,K0.out,fun _ _ _ h=>by cases h⟩⟩
  have K1:z0_ (w0.cell? ⟨g,i*6+1,none⟩=some (.int .i64 x.f1)):=⟨by have:=hcc 1 _ rfl;simpa [show k86.sz=6 from rfl] using this⟩
  have Q1:z0_ (w0.frozen? ⟨g,i*6+1,none⟩=false):=⟨by have:=hff 1;simpa [show k86.sz=6 from rfl] using this⟩
  have P1:z0_ (ScP S w0 ⟨g,i*6+1,none⟩):=⟨⟨HSG.out,_,K1.out,fun _ _ _ h=>by cases h⟩⟩
  have K2:z0_ (w0.cell? ⟨g,i*6+2,none⟩=some (.string x.f2)):=⟨by have:=hcc 2 _ rfl;simpa [show k86.sz=6 from rfl] using this⟩
  have Q2:z0_ (w0.frozen? ⟨g,i*6+2,none⟩=false):=⟨by have:=hff 2;simpa [show k86.sz=6 from rfl] using this⟩
  have P2:z0_ (ScP S w0 ⟨g,i*6+2,none⟩):=⟨⟨HSG.out,_,K2.out,fun _ _ _ h=>by cases h⟩⟩
  have K3:z0_ (w0.cell? ⟨g,i*6+3,none⟩=some (.int .i64 x.f3.f0)):=⟨by have:=hcc 3 _ rfl;simpa [show k86.sz=6 from rfl] using this⟩
  have Q3:z0_ (w0.frozen? ⟨g,i*6+3,none⟩=false):=⟨by have:=hff 3;simpa [show k86.sz=6 from rfl] using this⟩
  have P3:z0_ (ScP S w0 ⟨g,i*6+3,none⟩):=⟨⟨HSG.out,_,K3.out,fun _ _ _ h=>by cases h⟩⟩
  have K4:z0_ (w0.cell? ⟨g,i*6+4,none⟩=some (.int .i64 x.f3.f1)):=⟨by have:=hcc 4 _ rfl;simpa [show k86.sz=6 from rfl] using this⟩
  have Q4:z0_ (w0.frozen? ⟨g,i*6+4,none⟩=false):=⟨by have:=hff 4;simpa [show k86.sz=6 from rfl] using this⟩
  have P4:z0_ (ScP S w0 ⟨g,i*6+4,none⟩):=⟨⟨HSG.out,_,K4.out,fun _ _ _ h=>by cases h⟩⟩
  have K5:z0_ (w0.cell? ⟨g,i*6+5,none⟩=some (.string x.f3.f2)):=⟨by have:=hcc 5 _ rfl;simpa [show k86.sz=6 from rfl] using this⟩
  have Q5:z0_ (w0.frozen? ⟨g,i*6+5,none⟩=false):=⟨by have:=hff 5;simpa [show k86.sz=6 from rfl] using this⟩
  have P5:z0_ (ScP S w0 ⟨g,i*6+5,none⟩):=⟨⟨HSG.out,_,K5.out,fun _ _ _ h=>by cases h⟩⟩
  have hbb:b≤1099511627776:=by omega
  have HBX:=a_ hb1;clear hcc hff hM hcn hcl hlt hgb hb1;obtain ⟨u0,h0⟩:=Sc.at_ SC.out K0.out;have f0:=Sc.fz SC.out K0.out Q0.out;obtain ⟨u1,h1⟩:=Sc.at_ SC.out K1.out;have f1:=Sc.fz SC.out K1.out Q1.out;obtain ⟨u2,h2⟩:=Sc.at_ SC.out K2.out;have f2:=Sc.fz SC.out K2.out Q2.out;obtain ⟨u3,h3⟩:=Sc.at_ SC.out K3.out;have f3:=Sc.fz SC.out K3.out Q3.out;obtain ⟨u4,h4⟩:=Sc.at_ SC.out K4.out;have f4:=Sc.fz SC.out K4.out Q4.out;obtain ⟨u5,h5⟩:=Sc.at_ SC.out K5.out;have f5:=Sc.fz SC.out K5.out Q5.out;go_wp2_with (first|(go_at_call 48;refine (zi_.calls 20 _ _ _ (text20 _ (by omega) (by omega))).mono ?_;rintro e wx ⟨rfl,hd⟩;replace SC:=a_ (Sc.below (msc_ SC) hd);replace HB:=ms_ HB hd;clear h0 f0 h1 f1 h2 f2 h3 f3 h4 f4 h5 f5 hd;obtain ⟨u0,h0⟩:=Sc.at_ SC.out K0.out;have f0:=Sc.fz SC.out K0.out Q0.out;obtain ⟨u1,h1⟩:=Sc.at_ SC.out K1.out;have f1:=Sc.fz SC.out K1.out Q1.out;obtain ⟨u2,h2⟩:=Sc.at_ SC.out K2.out;have f2:=Sc.fz SC.out K2.out Q2.out;obtain ⟨u3,h3⟩:=Sc.at_ SC.out K3.out;have f3:=Sc.fz SC.out K3.out Q3.out;obtain ⟨u4,h4⟩:=Sc.at_ SC.out K4.out;have f4:=Sc.fz SC.out K4.out Q4.out;obtain ⟨u5,h5⟩:=Sc.at_ SC.out K5.out;have f5:=Sc.fz SC.out K5.out Q5.out));go_roundg (l.length-(i+1))
  case measure=>omega
  case rel=>exact ⟨i+1,_,by omega,Nat.le_refl _,by omega,rfl,by go_num,⟨by rw [HCN.out];unfold c_Term;omega⟩,⟨msc_ SC⟩,⟨mb_ HB⟩⟩
 ·have hil:i=l.length:=by omega
  subst hil;have hnl:¬((l.length:Nat):Int)<((l.length:Nat):Int):=by omega
  have hc:=HC.out;rw [List.take_length] at hc;have HC2:=a_ hc;clear hc HC hlt;go_wp2;go_ret;exact ⟨congrArg (fun z=>Ending.returned (.int .i64 z)) HC2.out.symm,SC.out,HB.out⟩
def c_Pattern (x:S42):Nat:=2+cnS c_Term x.f2
set_option maxHeartbeats 4000000 in
set_option maxRecDepth 100000 in
theorem sc_markPatternS (wl w0 w:World) (S:Nat→Prop) (ok:Nat→Prop) (v:Value) (l:List S42) (a:Int) (hR:Kd.R k42 42 w0 wl.heap.size ok v l) (hok:∀k,ok k→S k) (hS:Sc S w0 w) (hB:Below wl.heap.size wl w) (ha0:0≤a) (ha:a+(cnS c_Pattern l:Int)≤1099511627776) (hl:l.length≤9223372036854775807):
  Calls Tryz.prog 49 #[v,.int .i64 a] w fun e w'=>e=.returned (.int .i64 (a+(cnS c_Pattern l:Int)))∧Sc S w0 w'∧Below wl.heap.size wl w':=by
 obtain ⟨A,c,ev⟩:=Kd.yv_ hR;subst ev;have HR:=a_ hR;have HOK:=a_ hok;have SC:=a_ hS;have HB:=a_ hB;have HA:=a_ ha;have HZ:z0_ (a+(cnS c_Pattern (l.take 0):Int)=a):=⟨by simp [cnS]⟩
 have HL:=a_ hl;have hu:=Tryz.underlying42;clear hR hok hS hB ha hl;go_enter Tryz.func49,Tryz.ntmps49;go_wp2;go_loopg [1,5] l.length (fun gg v1 v5 wr=>∃(i:Nat) (b:Int),i≤l.length∧l.length-i≤gg∧0≤b∧v1=.int .i64 b∧v5=.int .i64 (i:Int)∧z0_ (a+(cnS c_Pattern (l.take i):Int)=b)∧z0_ (Sc S w0 wr)∧z0_ (Below wl.heap.size wl wr))
 case atStart=>exact ⟨0,a,Nat.zero_le _,Nat.sub_le _ _,ha0,rfl,rfl,HZ,SC,HB⟩
 clear HZ SC HB ha0;obtain ⟨i,b,hi,hgg,hb0,rfl,rfl,HC,SC,HB⟩:=hrel;by_cases hlt:i<l.length
 ·have hz:(i:Int)<(l.length:Int):=by omega
  have hz0:(0:Int)≤(i:Int):=by omega
  have hz1:(i:Int)≤9223372036854775806:=by have:=HL.out;omega
  have hcn:=cnS_take c_Pattern z42 l i hlt;have hcl:=cnS_le c_Pattern l (i+1);have hb1:b+(c_Pattern (l.getD i z42):Int)≤1099511627776:=by have:=HA.out;have:=HC.out;omega
  have HCN:z0_ (a+(cnS c_Pattern (l.take (i+1)):Int)=b+(c_Pattern (l.getD i z42):Int)):=⟨by have:=HC.out;omega⟩
  obtain ⟨g,cap,ev,hgb,_,_⟩:=Kd.R_form HR.out (by omega);injection ev with eA _ ec
  subst eA;subst ec;obtain ⟨cc,_,hM,hcc,hff⟩:=Kd.R_elem HR.out z42 (i:Int) hz0 hz;rw [Int.toNat_natCast] at hM hcc hff;have HG:=a_ hgb;have HSG:z0_ (S g):=⟨HOK.out g (HR.out.1 g (by simp [Value.ownBlock]))⟩
  obtain ⟨vs2,rfl,hI2⟩:=k42_openM hM;obtain ⟨A2,c2,es2⟩:=Kd.yv_ hI2;subst es2;have HI2:=a_ hI2;have HLI2:=a_ (Kd.yb_ hI2).2.2.2.1;generalize l.getD i z42=x at *;have K0:z0_ (w0.cell? ⟨g,i*3,none⟩=some (.bool x.f0)):=⟨by have:=hcc 0 _ rfl;simpa [show k42.sz=3 from rfl] using this⟩
  have Q0:z0_ (w0.frozen? ⟨g,i*3,none⟩=false):=⟨by have:=hff 0;simpa [show k42.sz=3 from rfl] using this⟩
  have P0:z0_ (ScP S w0 ⟨g,i*3,none⟩):=⟨⟨HSG.out,_,K0.out,fun _ _ _ h=>by cases h⟩⟩
  have K1:z0_ (w0.cell? ⟨g,i*3+1,none⟩=some (.string x.f1)):=⟨by have:=hcc 1 _ rfl;simpa [show k42.sz=3 from rfl] using this⟩
  have Q1:z0_ (w0.frozen? ⟨g,i*3+1,none⟩=false):=⟨by have:=hff 1;simpa [show k42.sz=3 from rfl] using this⟩
  have P1:z0_ (ScP S w0 ⟨g,i*3+1,none⟩):=⟨⟨HSG.out,_,K1.out,fun _ _ _ h=>by cases h⟩⟩
  have K2:z0_ (w0.cell? ⟨g,i*3+2,none⟩=some (.slice A2 x.f2.length c2)):=⟨by have:=hcc 2 _ rfl;simpa [show k42.sz=3 from rfl] using this⟩
  have hbb:b≤1099511627776:=by omega
  have HBX:=a_ hb1;clear hcc hff hM hI2 hcn hcl hlt hgb hb1;obtain ⟨u0,h0⟩:=Sc.at_ SC.out K0.out;have f0:=Sc.fz SC.out K0.out Q0.out;obtain ⟨u1,h1⟩:=Sc.at_ SC.out K1.out;have f1:=Sc.fz SC.out K1.out Q1.out;have h2:=Sc.sl SC.out K2.out;go_wp2_with (first|(go_at_call 48;refine (zi_.calls 20 _ _ _ (text20 _ (by omega) (by omega))).mono ?_;rintro e wx ⟨rfl,hd⟩;replace SC:=a_ (Sc.below (msc_ SC) hd);replace HB:=ms_ HB hd;clear h0 f0 h1 f1 h2 hd;obtain ⟨u0,h0⟩:=Sc.at_ SC.out K0.out;have f0:=Sc.fz SC.out K0.out Q0.out;obtain ⟨u1,h1⟩:=Sc.at_ SC.out K1.out;have f1:=Sc.fz SC.out K1.out Q1.out;have h2:=Sc.sl SC.out K2.out)|(go_at_call 94;refine (sc_markTermS wl w0 _ S _ _ x.f2 _ HI2.out (fun k_ hk_=>HOK.out k_ hk_.1) (msc_ SC) (mb_ HB) (by omega) (by have:=HBX.out;unfold c_Pattern at this;omega) (by have:=HLI2.out;omega)).mono ?_;rintro e wx ⟨rfl,hs_,hb_⟩;replace SC:=a_ hs_;replace HB:=a_ hb_;clear h0 f0 h1 f1 h2 hs_ hb_;obtain ⟨u0,h0⟩:=Sc.at_ SC.out K0.out;have f0:=Sc.fz SC.out K0.out Q0.out;obtain ⟨u1,h1⟩:=Sc.at_ SC.out K1.out;have f1:=Sc.fz SC.out K1.out Q1.out;have h2:=Sc.sl SC.out K2.out));go_roundg (l.length-(i+1))
  case measure=>omega
  case rel=>exact ⟨i+1,_,by omega,Nat.le_refl _,by omega,rfl,by go_num,⟨by rw [HCN.out];unfold c_Pattern;omega⟩,⟨msc_ SC⟩,⟨mb_ HB⟩⟩
 ·have hil:i=l.length:=by omega
  subst hil;have hnl:¬((l.length:Nat):Int)<((l.length:Nat):Int):=by omega
  have hc:=HC.out;rw [List.take_length] at hc;have HC2:=a_ hc;clear hc HC hlt;go_wp2;go_ret;exact ⟨congrArg (fun z=>Ending.returned (.int .i64 z)) HC2.out.symm,SC.out,HB.out⟩
def c_Expr (x:S161):Nat:=8
set_option maxHeartbeats 4000000 in
set_option maxRecDepth 100000 in
theorem sc_markExprS (wl w0 w:World) (S:Nat→Prop) (ok:Nat→Prop) (v:Value) (l:List S161) (a:Int) (hR:Kd.R k161 161 w0 wl.heap.size ok v l) (hok:∀k,ok k→S k) (hS:Sc S w0 w) (hB:Below wl.heap.size wl w) (ha0:0≤a) (ha:a+(cnS c_Expr l:Int)≤1099511627776) (hl:l.length≤9223372036854775807):
  Calls Tryz.prog 50 #[v,.int .i64 a] w fun e w'=>e=.returned (.int .i64 (a+(cnS c_Expr l:Int)))∧Sc S w0 w'∧Below wl.heap.size wl w':=by
 obtain ⟨A,c,ev⟩:=Kd.yv_ hR;subst ev;have HR:=a_ hR;have HOK:=a_ hok;have SC:=a_ hS;have HB:=a_ hB;have HA:=a_ ha;have HZ:z0_ (a+(cnS c_Expr (l.take 0):Int)=a):=⟨by simp [cnS]⟩
 have HL:=a_ hl;have hu:=Tryz.underlying161;have hu1:=Tryz.underlying80;clear hR hok hS hB ha hl;go_enter Tryz.func50,Tryz.ntmps50;go_wp2;go_loopg [1,5] l.length (fun gg v1 v5 wr=>∃(i:Nat) (b:Int),i≤l.length∧l.length-i≤gg∧0≤b∧v1=.int .i64 b∧v5=.int .i64 (i:Int)∧z0_ (a+(cnS c_Expr (l.take i):Int)=b)∧z0_ (Sc S w0 wr)∧z0_ (Below wl.heap.size wl wr))
 case atStart=>exact ⟨0,a,Nat.zero_le _,Nat.sub_le _ _,ha0,rfl,rfl,HZ,SC,HB⟩
 clear HZ SC HB ha0;obtain ⟨i,b,hi,hgg,hb0,rfl,rfl,HC,SC,HB⟩:=hrel;by_cases hlt:i<l.length
 ·have hz:(i:Int)<(l.length:Int):=by omega
  have hz0:(0:Int)≤(i:Int):=by omega
  have hz1:(i:Int)≤9223372036854775806:=by have:=HL.out;omega
  have hcn:=cnS_take c_Expr z161 l i hlt;have hcl:=cnS_le c_Expr l (i+1);have hb1:b+(c_Expr (l.getD i z161):Int)≤1099511627776:=by have:=HA.out;have:=HC.out;omega
  have HCN:z0_ (a+(cnS c_Expr (l.take (i+1)):Int)=b+(c_Expr (l.getD i z161):Int)):=⟨by have:=HC.out;omega⟩
  obtain ⟨g,cap,ev,hgb,_,_⟩:=Kd.R_form HR.out (by omega);injection ev with eA _ ec
  subst eA;subst ec;obtain ⟨cc,_,hM,hcc,hff⟩:=Kd.R_elem HR.out z161 (i:Int) hz0 hz;rw [Int.toNat_natCast] at hM hcc hff;have HG:=a_ hgb;have HSG:z0_ (S g):=⟨HOK.out g (HR.out.1 g (by simp [Value.ownBlock]))⟩
  obtain rfl:=k161_openM hM;generalize l.getD i z161=x at *;have K0:z0_ (w0.cell? ⟨g,i*8,none⟩=some (.int .i64 x.f0)):=⟨by have:=hcc 0 _ rfl;simpa [show k161.sz=8 from rfl] using this⟩
  have Q0:z0_ (w0.frozen? ⟨g,i*8,none⟩=false):=⟨by have:=hff 0;simpa [show k161.sz=8 from rfl] using this⟩
  have P0:z0_ (ScP S w0 ⟨g,i*8,none⟩):=⟨⟨HSG.out,_,K0.out,fun _ _ _ h=>by cases h⟩⟩
  have K1:z0_ (w0.cell? ⟨g,i*8+1,none⟩=some (.int .u8 x.f1)):=⟨by have:=hcc 1 _ rfl;simpa [show k161.sz=8 from rfl] using this⟩
  have Q1:z0_ (w0.frozen? ⟨g,i*8+1,none⟩=false):=⟨by have:=hff 1;simpa [show k161.sz=8 from rfl] using this⟩
  have P1:z0_ (ScP S w0 ⟨g,i*8+1,none⟩):=⟨⟨HSG.out,_,K1.out,fun _ _ _ h=>by cases h⟩⟩
  have K2:z0_ (w0.cell? ⟨g,i*8+2,none⟩=some (.string x.f2)):=⟨by have:=hcc 2 _ rfl;simpa [show k161.sz=8 from rfl] using this⟩
  have Q2:z0_ (w0.frozen? ⟨g,i*8+2,none⟩=false):=⟨by have:=hff 2;simpa [show k161.sz=8 from rfl] using this⟩
  have P2:z0_ (ScP S w0 ⟨g,i*8+2,none⟩):=⟨⟨HSG.out,_,K2.out,fun _ _ _ h=>by cases h⟩⟩
  have K3:z0_ (w0.cell? ⟨g,i*8+3,none⟩=some (.int .i64 x.f3.f0)):=⟨by have:=hcc 3 _ rfl;simpa [show k161.sz=8 from rfl] using this⟩
  have Q3:z0_ (w0.frozen? ⟨g,i*8+3,none⟩=false):=⟨by have:=hff 3;simpa [show k161.sz=8 from rfl] using this⟩
  have P3:z0_ (ScP S w0 ⟨g,i*8+3,none⟩):=⟨⟨HSG.out,_,K3.out,fun _ _ _ h=>by cases h⟩⟩
  have K4:z0_ (w0.cell? ⟨g,i*8+4,none⟩=some (.int .i64 x.f3.f1)):=⟨by have:=hcc 4 _ rfl;simpa [show k161.sz=8 from rfl] using this⟩
  have Q4:z0_ (w0.frozen? ⟨g,i*8+4,none⟩=false):=⟨by have:=hff 4;simpa [show k161.sz=8 from rfl] using this⟩
  have P4:z0_ (ScP S w0 ⟨g,i*8+4,none⟩):=⟨⟨HSG.out,_,K4.out,fun _ _ _ h=>by cases h⟩⟩
  have K5:z0_ (w0.cell? ⟨g,i*8+5,none⟩=some (.string x.f3.f2)):=⟨by have:=hcc 5 _ rfl;simpa [show k161.sz=8 from rfl] using this⟩
  have Q5:z0_ (w0.frozen? ⟨g,i*8+5,none⟩=false):=⟨by have:=hff 5;simpa [show k161.sz=8 from rfl] using this⟩
  have P5:z0_ (ScP S w0 ⟨g,i*8+5,none⟩):=⟨⟨HSG.out,_,K5.out,fun _ _ _ h=>by cases h⟩⟩
  have K6:z0_ (w0.cell? ⟨g,i*8+6,none⟩=some (.int .i64 x.f4)):=⟨by have:=hcc 6 _ rfl;simpa [show k161.sz=8 from rfl] using this⟩
  have Q6:z0_ (w0.frozen? ⟨g,i*8+6,none⟩=false):=⟨by have:=hff 6;simpa [show k161.sz=8 from rfl] using this⟩
  have P6:z0_ (ScP S w0 ⟨g,i*8+6,none⟩):=⟨⟨HSG.out,_,K6.out,fun _ _ _ h=>by cases h⟩⟩
  have K7:z0_ (w0.cell? ⟨g,i*8+7,none⟩=some (.int .i64 x.f5)):=⟨by have:=hcc 7 _ rfl;simpa [show k161.sz=8 from rfl] using this⟩
  have Q7:z0_ (w0.frozen? ⟨g,i*8+7,none⟩=false):=⟨by have:=hff 7;simpa [show k161.sz=8 from rfl] using this⟩
  have P7:z0_ (ScP S w0 ⟨g,i*8+7,none⟩):=⟨⟨HSG.out,_,K7.out,fun _ _ _ h=>by cases h⟩⟩
  have hbb:b≤1099511627776:=by omega
  have HBX:=a_ hb1;clear hcc hff hM hcn hcl hlt hgb hb1;obtain ⟨u0,h0⟩:=Sc.at_ SC.out K0.out;have f0:=Sc.fz SC.out K0.out Q0.out;obtain ⟨u1,h1⟩:=Sc.at_ SC.out K1.out;have f1:=Sc.fz SC.out K1.out Q1.out;obtain ⟨u2,h2⟩:=Sc.at_ SC.out K2.out;have f2:=Sc.fz SC.out K2.out Q2.out;obtain ⟨u3,h3⟩:=Sc.at_ SC.out K3.out;have f3:=Sc.fz SC.out K3.out Q3.out;obtain ⟨u4,h4⟩:=Sc.at_ SC.out K4.out;have f4:=Sc.fz SC.out K4.out Q4.out;obtain ⟨u5,h5⟩:=Sc.at_ SC.out K5.out;have f5:=Sc.fz SC.out K5.out Q5.out;obtain ⟨u6,h6⟩:=Sc.at_ SC.out K6.out;have f6:=Sc.fz SC.out K6.out Q6.out;obtain ⟨u7,h7⟩:=Sc.at_ SC.out K7.out;have f7:=Sc.fz SC.out K7.out Q7.out;go_wp2_with (first|(go_at_call 48;refine (zi_.calls 20 _ _ _ (text20 _ (by omega) (by omega))).mono ?_;rintro e wx ⟨rfl,hd⟩;replace SC:=a_ (Sc.below (msc_ SC) hd);replace HB:=ms_ HB hd;clear h0 f0 h1 f1 h2 f2 h3 f3 h4 f4 h5 f5 h6 f6 h7 f7 hd;obtain ⟨u0,h0⟩:=Sc.at_ SC.out K0.out;have f0:=Sc.fz SC.out K0.out Q0.out;obtain ⟨u1,h1⟩:=Sc.at_ SC.out K1.out;have f1:=Sc.fz SC.out K1.out Q1.out;obtain ⟨u2,h2⟩:=Sc.at_ SC.out K2.out;have f2:=Sc.fz SC.out K2.out Q2.out;obtain ⟨u3,h3⟩:=Sc.at_ SC.out K3.out;have f3:=Sc.fz SC.out K3.out Q3.out;obtain ⟨u4,h4⟩:=Sc.at_ SC.out K4.out;have f4:=Sc.fz SC.out K4.out Q4.out;obtain ⟨u5,h5⟩:=Sc.at_ SC.out K5.out;have f5:=Sc.fz SC.out K5.out Q5.out;obtain ⟨u6,h6⟩:=Sc.at_ SC.out K6.out;have f6:=Sc.fz SC.out K6.out Q6.out;obtain ⟨u7,h7⟩:=Sc.at_ SC.out K7.out;have f7:=Sc.fz SC.out K7.out Q7.out));go_roundg (l.length-(i+1))
  case measure=>omega
  case rel=>exact ⟨i+1,_,by omega,Nat.le_refl _,by omega,rfl,by go_num,⟨by rw [HCN.out];unfold c_Expr;omega⟩,⟨msc_ SC⟩,⟨mb_ HB⟩⟩
 ·have hil:i=l.length:=by omega
  subst hil;have hnl:¬((l.length:Nat):Int)<((l.length:Nat):Int):=by omega
  have hc:=HC.out;rw [List.take_length] at hc;have HC2:=a_ hc;clear hc HC hlt;go_wp2;go_ret;exact ⟨congrArg (fun z=>Ending.returned (.int .i64 z)) HC2.out.symm,SC.out,HB.out⟩
def c_Action (x:S98):Nat:=3+cnS c_int x.f3
set_option maxHeartbeats 4000000 in
set_option maxRecDepth 100000 in
theorem sc_markActionS (wl w0 w:World) (S:Nat→Prop) (ok:Nat→Prop) (v:Value) (l:List S98) (a:Int) (hR:Kd.R k98 98 w0 wl.heap.size ok v l) (hok:∀k,ok k→S k) (hS:Sc S w0 w) (hB:Below wl.heap.size wl w) (ha0:0≤a) (ha:a+(cnS c_Action l:Int)≤1099511627776) (hl:l.length≤9223372036854775807):
  Calls Tryz.prog 51 #[v,.int .i64 a] w fun e w'=>e=.returned (.int .i64 (a+(cnS c_Action l:Int)))∧Sc S w0 w'∧Below wl.heap.size wl w':=by
 obtain ⟨A,c,ev⟩:=Kd.yv_ hR;subst ev;have HR:=a_ hR;have HOK:=a_ hok;have SC:=a_ hS;have HB:=a_ hB;have HA:=a_ ha;have HZ:z0_ (a+(cnS c_Action (l.take 0):Int)=a):=⟨by simp [cnS]⟩
 have HL:=a_ hl;have hu:=Tryz.underlying98;clear hR hok hS hB ha hl;go_enter Tryz.func51,Tryz.ntmps51;go_wp2;go_loopg [1,5] l.length (fun gg v1 v5 wr=>∃(i:Nat) (b:Int),i≤l.length∧l.length-i≤gg∧0≤b∧v1=.int .i64 b∧v5=.int .i64 (i:Int)∧z0_ (a+(cnS c_Action (l.take i):Int)=b)∧z0_ (Sc S w0 wr)∧z0_ (Below wl.heap.size wl wr))
 case atStart=>exact ⟨0,a,Nat.zero_le _,Nat.sub_le _ _,ha0,rfl,rfl,HZ,SC,HB⟩
 clear HZ SC HB ha0;obtain ⟨i,b,hi,hgg,hb0,rfl,rfl,HC,SC,HB⟩:=hrel;by_cases hlt:i<l.length
 ·have hz:(i:Int)<(l.length:Int):=by omega
  have hz0:(0:Int)≤(i:Int):=by omega
  have hz1:(i:Int)≤9223372036854775806:=by have:=HL.out;omega
  have hcn:=cnS_take c_Action z98 l i hlt;have hcl:=cnS_le c_Action l (i+1);have hb1:b+(c_Action (l.getD i z98):Int)≤1099511627776:=by have:=HA.out;have:=HC.out;omega
  have HCN:z0_ (a+(cnS c_Action (l.take (i+1)):Int)=b+(c_Action (l.getD i z98):Int)):=⟨by have:=HC.out;omega⟩
  obtain ⟨g,cap,ev,hgb,_,_⟩:=Kd.R_form HR.out (by omega);injection ev with eA _ ec
  subst eA;subst ec;obtain ⟨cc,_,hM,hcc,hff⟩:=Kd.R_elem HR.out z98 (i:Int) hz0 hz;rw [Int.toNat_natCast] at hM hcc hff;have HG:=a_ hgb;have HSG:z0_ (S g):=⟨HOK.out g (HR.out.1 g (by simp [Value.ownBlock]))⟩
  obtain ⟨vs3,rfl,hI3⟩:=k98_openM hM;obtain ⟨A3,c3,es3⟩:=Kd.yv_ hI3;subst es3;have HI3:=a_ hI3;have HLI3:=a_ (Kd.yb_ hI3).2.2.2.1;generalize l.getD i z98=x at *;have K0:z0_ (w0.cell? ⟨g,i*4,none⟩=some (.int .i64 x.f0)):=⟨by have:=hcc 0 _ rfl;simpa [show k98.sz=4 from rfl] using this⟩
  have Q0:z0_ (w0.frozen? ⟨g,i*4,none⟩=false):=⟨by have:=hff 0;simpa [show k98.sz=4 from rfl] using this⟩
  have P0:z0_ (ScP S w0 ⟨g,i*4,none⟩):=⟨⟨HSG.out,_,K0.out,fun _ _ _ h=>by cases h⟩⟩
  have K1:z0_ (w0.cell? ⟨g,i*4+1,none⟩=some (.int .i64 x.f1)):=⟨by have:=hcc 1 _ rfl;simpa [show k98.sz=4 from rfl] using this⟩
  have Q1:z0_ (w0.frozen? ⟨g,i*4+1,none⟩=false):=⟨by have:=hff 1;simpa [show k98.sz=4 from rfl] using this⟩
  have P1:z0_ (ScP S w0 ⟨g,i*4+1,none⟩):=⟨⟨HSG.out,_,K1.out,fun _ _ _ h=>by cases h⟩⟩
  have K2:z0_ (w0.cell? ⟨g,i*4+2,none⟩=some (.string x.f2)):=⟨by have:=hcc 2 _ rfl;simpa [show k98.sz=4 from rfl] using this⟩
  have Q2:z0_ (w0.frozen? ⟨g,i*4+2,none⟩=false):=⟨by have:=hff 2;simpa [show k98.sz=4 from rfl] using this⟩
  have P2:z0_ (ScP S w0 ⟨g,i*4+2,none⟩):=⟨⟨HSG.out,_,K2.out,fun _ _ _ h=>by cases h⟩⟩
  have K3:z0_ (w0.cell? ⟨g,i*4+3,none⟩=some (.slice A3 x.f3.length c3)):=⟨by have:=hcc 3 _ rfl;simpa [show k98.sz=4 from rfl] using this⟩
  have hbb:b≤1099511627776:=by omega
  have HBX:=a_ hb1;clear hcc hff hM hI3 hcn hcl hlt hgb hb1;obtain ⟨u0,h0⟩:=Sc.at_ SC.out K0.out;have f0:=Sc.fz SC.out K0.out Q0.out;obtain ⟨u1,h1⟩:=Sc.at_ SC.out K1.out;have f1:=Sc.fz SC.out K1.out Q1.out;obtain ⟨u2,h2⟩:=Sc.at_ SC.out K2.out;have f2:=Sc.fz SC.out K2.out Q2.out;have h3:=Sc.sl SC.out K3.out;go_wp2_with (first|(go_at_call 48;refine (zi_.calls 20 _ _ _ (text20 _ (by omega) (by omega))).mono ?_;rintro e wx ⟨rfl,hd⟩;replace SC:=a_ (Sc.below (msc_ SC) hd);replace HB:=ms_ HB hd;clear h0 f0 h1 f1 h2 f2 h3 hd;obtain ⟨u0,h0⟩:=Sc.at_ SC.out K0.out;have f0:=Sc.fz SC.out K0.out Q0.out;obtain ⟨u1,h1⟩:=Sc.at_ SC.out K1.out;have f1:=Sc.fz SC.out K1.out Q1.out;obtain ⟨u2,h2⟩:=Sc.at_ SC.out K2.out;have f2:=Sc.fz SC.out K2.out Q2.out;have h3:=Sc.sl SC.out K3.out)|(go_at_call 95;refine (sc_markIntS wl w0 _ S _ _ x.f3 _ HI3.out (fun k_ hk_=>HOK.out k_ hk_.1) (msc_ SC) (mb_ HB) (by omega) (by have:=HBX.out;unfold c_Action at this;omega) (by have:=HLI3.out;omega)).mono ?_;rintro e wx ⟨rfl,hs_,hb_⟩;replace SC:=a_ hs_;replace HB:=a_ hb_;clear h0 f0 h1 f1 h2 f2 h3 hs_ hb_;obtain ⟨u0,h0⟩:=Sc.at_ SC.out K0.out;have f0:=Sc.fz SC.out K0.out Q0.out;obtain ⟨u1,h1⟩:=Sc.at_ SC.out K1.out;have f1:=Sc.fz SC.out K1.out Q1.out;obtain ⟨u2,h2⟩:=Sc.at_ SC.out K2.out;have f2:=Sc.fz SC.out K2.out Q2.out;have h3:=Sc.sl SC.out K3.out));go_roundg (l.length-(i+1))
  case measure=>omega
  case rel=>exact ⟨i+1,_,by omega,Nat.le_refl _,by omega,rfl,by go_num,⟨by rw [HCN.out];unfold c_Action;omega⟩,⟨msc_ SC⟩,⟨mb_ HB⟩⟩
 ·have hil:i=l.length:=by omega
  subst hil;have hnl:¬((l.length:Nat):Int)<((l.length:Nat):Int):=by omega
  have hc:=HC.out;rw [List.take_length] at hc;have HC2:=a_ hc;clear hc HC hlt;go_wp2;go_ret;exact ⟨congrArg (fun z=>Ending.returned (.int .i64 z)) HC2.out.symm,SC.out,HB.out⟩
def c_Rule (x:S39):Nat:=2+cnS c_Pattern x.f2+cnS c_Expr x.f3+cnS c_Action x.f4
set_option maxHeartbeats 4000000 in
set_option maxRecDepth 100000 in
theorem sc_markRuleS (wl w0 w:World) (S:Nat→Prop) (ok:Nat→Prop) (v:Value) (l:List S39) (a:Int) (hR:Kd.R k39 39 w0 wl.heap.size ok v l) (hok:∀k,ok k→S k) (hS:Sc S w0 w) (hB:Below wl.heap.size wl w) (ha0:0≤a) (ha:a+(cnS c_Rule l:Int)≤1099511627776) (hl:l.length≤9223372036854775807):
  Calls Tryz.prog 18 #[v,.int .i64 a] w fun e w'=>e=.returned (.int .i64 (a+(cnS c_Rule l:Int)))∧Sc S w0 w'∧Below wl.heap.size wl w':=by
 obtain ⟨A,c,ev⟩:=Kd.yv_ hR;subst ev;have HR:=a_ hR;have HOK:=a_ hok;have SC:=a_ hS;have HB:=a_ hB;have HA:=a_ ha;have HZ:z0_ (a+(cnS c_Rule (l.take 0):Int)=a):=⟨by simp [cnS]⟩
 have HL:=a_ hl;have hu:=Tryz.underlying39;clear hR hok hS hB ha hl;go_enter Tryz.func18,Tryz.ntmps18;go_wp2;go_loopg [1,5] l.length (fun gg v1 v5 wr=>∃(i:Nat) (b:Int),i≤l.length∧l.length-i≤gg∧0≤b∧v1=.int .i64 b∧v5=.int .i64 (i:Int)∧z0_ (a+(cnS c_Rule (l.take i):Int)=b)∧z0_ (Sc S w0 wr)∧z0_ (Below wl.heap.size wl wr))
 case atStart=>exact ⟨0,a,Nat.zero_le _,Nat.sub_le _ _,ha0,rfl,rfl,HZ,SC,HB⟩
 clear HZ SC HB ha0;obtain ⟨i,b,hi,hgg,hb0,rfl,rfl,HC,SC,HB⟩:=hrel;by_cases hlt:i<l.length
 ·have hz:(i:Int)<(l.length:Int):=by omega
  have hz0:(0:Int)≤(i:Int):=by omega
  have hz1:(i:Int)≤9223372036854775806:=by have:=HL.out;omega
  have hcn:=cnS_take c_Rule z39 l i hlt;have hcl:=cnS_le c_Rule l (i+1);have hb1:b+(c_Rule (l.getD i z39):Int)≤1099511627776:=by have:=HA.out;have:=HC.out;omega
  have HCN:z0_ (a+(cnS c_Rule (l.take (i+1)):Int)=b+(c_Rule (l.getD i z39):Int)):=⟨by have:=HC.out;omega⟩
  obtain ⟨g,cap,ev,hgb,_,_⟩:=Kd.R_form HR.out (by omega);injection ev with eA _ ec
  subst eA;subst ec;obtain ⟨cc,_,hM,hcc,hff⟩:=Kd.R_elem HR.out z39 (i:Int) hz0 hz;rw [Int.toNat_natCast] at hM hcc hff;have HG:=a_ hgb;have HSG:z0_ (S g):=⟨HOK.out g (HR.out.1 g (by simp [Value.ownBlock]))⟩
  obtain ⟨vs2,vs3,vs4,rfl,hI2,hI3,hI4⟩:=k39_openM hM;obtain ⟨A2,c2,es2⟩:=Kd.yv_ hI2;subst es2;have HI2:=a_ hI2;have HLI2:=a_ (Kd.yb_ hI2).2.2.2.1;obtain ⟨A3,c3,es3⟩:=Kd.yv_ hI3;subst es3;have HI3:=a_ hI3;have HLI3:=a_ (Kd.yb_ hI3).2.2.2.1;obtain ⟨A4,c4,es4⟩:=Kd.yv_ hI4;subst es4;have HI4:=a_ hI4;have HLI4:=a_ (Kd.yb_ hI4).2.2.2.1;generalize l.getD i z39=x at *;have K0:z0_ (w0.cell? ⟨g,i*5,none⟩=some (.string x.f0)):=⟨by have:=hcc 0 _ rfl;simpa [show k39.sz=5 from rfl] using this⟩
  have Q0:z0_ (w0.frozen? ⟨g,i*5,none⟩=false):=⟨by have:=hff 0;simpa [show k39.sz=5 from rfl] using this⟩
  have P0:z0_ (ScP S w0 ⟨g,i*5,none⟩):=⟨⟨HSG.out,_,K0.out,fun _ _ _ h=>by cases h⟩⟩
  have K1:z0_ (w0.cell? ⟨g,i*5+1,none⟩=some (.int .i64 x.f1)):=⟨by have:=hcc 1 _ rfl;simpa [show k39.sz=5 from rfl] using this⟩
  have Q1:z0_ (w0.frozen? ⟨g,i*5+1,none⟩=false):=⟨by have:=hff 1;simpa [show k39.sz=5 from rfl] using this⟩
  have P1:z0_ (ScP S w0 ⟨g,i*5+1,none⟩):=⟨⟨HSG.out,_,K1.out,fun _ _ _ h=>by cases h⟩⟩
  have K2:z0_ (w0.cell? ⟨g,i*5+2,none⟩=some (.slice A2 x.f2.length c2)):=⟨by have:=hcc 2 _ rfl;simpa [show k39.sz=5 from rfl] using this⟩
  have K3:z0_ (w0.cell? ⟨g,i*5+3,none⟩=some (.slice A3 x.f3.length c3)):=⟨by have:=hcc 3 _ rfl;simpa [show k39.sz=5 from rfl] using this⟩
  have K4:z0_ (w0.cell? ⟨g,i*5+4,none⟩=some (.slice A4 x.f4.length c4)):=⟨by have:=hcc 4 _ rfl;simpa [show k39.sz=5 from rfl] using this⟩
  have hbb:b≤1099511627776:=by omega
  have HBX:=a_ hb1;clear hcc hff hM hI2 hI3 hI4 hcn hcl hlt hgb hb1;obtain ⟨u0,h0⟩:=Sc.at_ SC.out K0.out;have f0:=Sc.fz SC.out K0.out Q0.out;obtain ⟨u1,h1⟩:=Sc.at_ SC.out K1.out;have f1:=Sc.fz SC.out K1.out Q1.out;have h2:=Sc.sl SC.out K2.out;have h3:=Sc.sl SC.out K3.out;have h4:=Sc.sl SC.out K4.out;go_wp2_with (first|(go_at_call 48;refine (zi_.calls 20 _ _ _ (text20 _ (by omega) (by omega))).mono ?_;rintro e wx ⟨rfl,hd⟩;replace SC:=a_ (Sc.below (msc_ SC) hd);replace HB:=ms_ HB hd;clear h0 f0 h1 f1 h2 h3 h4 hd;obtain ⟨u0,h0⟩:=Sc.at_ SC.out K0.out;have f0:=Sc.fz SC.out K0.out Q0.out;obtain ⟨u1,h1⟩:=Sc.at_ SC.out K1.out;have f1:=Sc.fz SC.out K1.out Q1.out;have h2:=Sc.sl SC.out K2.out;have h3:=Sc.sl SC.out K3.out;have h4:=Sc.sl SC.out K4.out)|(go_at_call 49;refine (sc_markPatternS wl w0 _ S _ _ x.f2 _ HI2.out (fun k_ hk_=>HOK.out k_ hk_.1) (msc_ SC) (mb_ HB) (by omega) (by have:=HBX.out;unfold c_Rule at this;omega) (by have:=HLI2.out;omega)).mono ?_;rintro e wx ⟨rfl,hs_,hb_⟩;replace SC:=a_ hs_;replace HB:=a_ hb_;clear h0 f0 h1 f1 h2 h3 h4 hs_ hb_;obtain ⟨u0,h0⟩:=Sc.at_ SC.out K0.out;have f0:=Sc.fz SC.out K0.out Q0.out;obtain ⟨u1,h1⟩:=Sc.at_ SC.out K1.out;have f1:=Sc.fz SC.out K1.out Q1.out;have h2:=Sc.sl SC.out K2.out;have h3:=Sc.sl SC.out K3.out;have h4:=Sc.sl SC.out K4.out)|(go_at_call 50;refine (sc_markExprS wl w0 _ S _ _ x.f3 _ HI3.out (fun k_ hk_=>HOK.out k_ hk_.1) (msc_ SC) (mb_ HB) (by omega) (by have:=HBX.out;unfold c_Rule at this;omega) (by have:=HLI3.out;omega)).mono ?_;rintro e wx ⟨rfl,hs_,hb_⟩;replace SC:=a_ hs_;replace HB:=a_ hb_;clear h0 f0 h1 f1 h2 h3 h4 hs_ hb_;obtain ⟨u0,h0⟩:=Sc.at_ SC.out K0.out;have f0:=Sc.fz SC.out K0.out Q0.out;obtain ⟨u1,h1⟩:=Sc.at_ SC.out K1.out;have f1:=Sc.fz SC.out K1.out Q1.out;have h2:=Sc.sl SC.out K2.out;have h3:=Sc.sl SC.out K3.out;have h4:=Sc.sl SC.out K4.out)|(go_at_call 51;refine (sc_markActionS wl w0 _ S _ _ x.f4 _ HI4.out (fun k_ hk_=>HOK.out k_ hk_.1) (msc_ SC) (mb_ HB) (by omega) (by have:=HBX.out;unfold c_Rule at this;omega) (by have:=HLI4.out;omega)).mono ?_;rintro e wx ⟨rfl,hs_,hb_⟩;replace SC:=a_ hs_;replace HB:=a_ hb_;clear h0 f0 h1 f1 h2 h3 h4 hs_ hb_;obtain ⟨u0,h0⟩:=Sc.at_ SC.out K0.out;have f0:=Sc.fz SC.out K0.out Q0.out;obtain ⟨u1,h1⟩:=Sc.at_ SC.out K1.out;have f1:=Sc.fz SC.out K1.out Q1.out;have h2:=Sc.sl SC.out K2.out;have h3:=Sc.sl SC.out K3.out;have h4:=Sc.sl SC.out K4.out));go_roundg (l.length-(i+1))
  case measure=>omega
  case rel=>exact ⟨i+1,_,by omega,Nat.le_refl _,by omega,rfl,by go_num,⟨by rw [HCN.out];unfold c_Rule;omega⟩,⟨msc_ SC⟩,⟨mb_ HB⟩⟩
 ·have hil:i=l.length:=by omega
  subst hil;have hnl:¬((l.length:Nat):Int)<((l.length:Nat):Int):=by omega
  have hc:=HC.out;rw [List.take_length] at hc;have HC2:=a_ hc;clear hc HC hlt;go_wp2;go_ret;exact ⟨congrArg (fun z=>Ending.returned (.int .i64 z)) HC2.out.symm,SC.out,HB.out⟩
end Go.Proofs.YtahambloheoebaaGreatDoor.Pure
namespace Go.Proofs.YtahambloheoebaaGreatDoorX
open Go.RowKit Go.Proofs.YtahambloheoebaaGreatDoorW.PrintWords
theorem S_read {α : Type} {d:Kd α} {e base n c:Nat} {W:World} {ok:Nat→Prop} {A:Option Addr} {xs:List α} (h:Kd.S d e W base ok (.slice A n c) xs):d.C W A xs.length xs:=(Kd.S_reads' h).2.2
theorem S_room {α : Type} {d:Kd α} {e base n c:Nat} {W:World} {ok:Nat→Prop} {A:Option Addr} {xs:List α} (h:Kd.S d e W base ok (.slice A n c) xs):xs.length≤c:=(Kd.S_reads' h).1▸(Kd.S_reads' h).2.1
end Go.Proofs.YtahambloheoebaaGreatDoorX
namespace Go.Proofs.YtahambloheoebaaGreatDoor.Pure
open Go.RowKit Go.Proofs.YtahambloheoebaaGreatDoor.P Go.Proofs.YtahambloheoebaaGreatDoorW.PrintWords Go.Proofs.YtahambloheoebaaGreatDoorW.PrintLast Go.Proofs.YtahambloheoebaaGreatDoorX
set_option maxHeartbeats 4000000 in
set_option maxRecDepth 100000 in
theorem markNet_full (k:Nat) (P:Nat→Prop) (u v:Value) (l0:List S50) (l1:List (List Int)) (a:Int) (y:Int×List S50) (z:Int×List (List Int)) (w0 w:World) (hB:Below w0.heap.size w0 w)
  (hA:Kd.S k50 50 w w0.heap.size P u l0) (hO:Kd.S (Kd.slice 3 (Kd.int .i64)) 43 w w0.heap.size P v l1) (h1:yx_.f k l0 a=some y) (h2:x9_.f k l1 y.1=some z):
  Calls Tryz.prog 23 #[.agg #[u,v],.int .i64 a] w fun e w'=>e=.returned (.int .i64 z.1)∧Kd.S k50 50 w' w0.heap.size (fun k=>P k∨w.heap.size≤k) u y.2∧Kd.S (Kd.slice 3 (Kd.int .i64)) 43 w' w0.heap.size (fun k=>P k∨w.heap.size≤k) v z.2∧Below w0.heap.size w0 w'∧Kept w w' P:=by
 have A1:=z0_.mk h1;have A2:=z0_.mk h2;obtain ⟨A,c,eu⟩:=Kd.S_slice hA;obtain ⟨A',c',ev⟩:=Kd.S_slice hO;subst eu;subst ev;have bA:=Kd.S_bound hA;have bO:=Kd.S_bound hO;obtain ⟨PA,hPA⟩:∃Q:Nat→Prop,Q=(fun k=>P k∧w0.heap.size≤k∧k<w.heap.size∧∃q,q∈50::(k50).E∧∃cells,w.heap[k]?=some (.cells cells q (0,0))):=⟨_,rfl⟩;obtain ⟨PO,hPO⟩:∃Q:Nat→Prop,Q=(fun k=>P k∧w0.heap.size≤k∧k<w.heap.size∧∃q,q∈43::(Kd.slice 3 (Kd.int .i64)).E∧∃cells,w.heap[k]?=some (.cells cells q (0,0))):=⟨_,rfl⟩;have eA:(k50).E=[82]:=by rfl
 have eO:(Kd.slice 3 (Kd.int .i64)).E=[3]:=by rfl
 have hd:∀k,PA k→¬PO k:=by
  subst hPA hPO;rintro k ⟨_,_,_,q,hq,cells,hc⟩ ⟨_,_,_,q',hq',cells',hc'⟩;rw [hc] at hc';injection hc' with hc'
  injection hc' with _ hc'
  subst hc';rw [eA] at hq;rw [eO] at hq';simp only [List.mem_cons,List.not_mem_nil,or_false] at hq hq';rcases hq with rfl|rfl<;>rcases hq' with hq'|hq'<;>exact absurd hq' (by decide)
 have lA:∀k,PA k→P k∧k<w.heap.size:=by subst hPA;exact fun k h=>⟨h.1,h.2.2.1⟩
 have lO:∀k,PO k→P k∧k<w.heap.size:=by subst hPO;exact fun k h=>⟨h.1,h.2.2.1⟩
 rw [←hPA] at bA;rw [←hPO] at bO;have HA:=z0_.mk bA;have HO:=z0_.mk bO;have HD:=z0_.mk hd;have HLA:=z0_.mk lA;have HLO:=z0_.mk lO;have HB:=z0_.mk hB;have hu0:=Tryz.underlying32;have hw0:=hB.size;clear h1 h2 hd hA hO hB bA bO lA lO hPA hPO eA eO;go_enter Tryz.func23,Tryz.ntmps23
 go_wp2_with (first
  | (go_at_call 55;refine (yx_.calls k PA _ l0 a y.1 y.2 w0 _ (HB.out.alloc hw0 _) (Kd.zr_ HA.out _) A1.out).mono ?_;rintro e w1 ⟨rfl,ho,hb,hk⟩;have HA1:=z0_.mk ho;have HO1:=z0_.mk (Kd.S_kept (Kd.zr_ HO.out _) hk (fun k_ h1 h2=>HD.out k_ h2 h1));have hx:w1.cell? ⟨w.heap.size,1,none⟩=some (.slice A' l1.length c'):=(by have hb3:=blk_kept (g:=w.heap.size) (wh_ w _) hk (fun h_=>Nat.lt_irrefl _ (HLA.out _ h_).2);exact (z1_ hb3 1).trans rfl);have HB1:=z0_.mk hb;have HK1:=z0_.mk hk;clear hb hk ho)
  | (go_at_call 56;refine (x9_.calls k PO _ l1 y.1 z.1 z.2 w0 _ HB1.out HO1.out A2.out).mono ?_;rintro e w2 ⟨rfl,ho,hb,hk⟩;have HA2:=z0_.mk (Kd.S_kept HA1.out hk (fun k_ h1 h2=>h1.elim (fun h3=>HD.out k_ h3 h2) (fun h3=>by have:=(HLO.out k_ h2).2;have e_:(w.alloc (Obj.cells #[.slice A l0.length c,.slice A' l1.length c'] 32)).heap.size=w.heap.size+1:=(by simp);omega)));have HO2:=z0_.mk ho;have HB2:=z0_.mk hb;have HK2:=z0_.mk hk;have HS1:=z0_.mk HK1.out.1;clear hb hk ho))
 go_ret;have e_:(w.alloc (Obj.cells #[.slice A l0.length c,.slice A' l1.length c'] 32)).heap.size=w.heap.size+1:=by simp
 refine ⟨rfl,Kd.xs_ HA2.out (fun k_ h=>h.elim (fun h=>.inl (HLA.out k_ h).1) (fun h=>.inr (by omega))),Kd.xs_ HO2.out (fun k_ h=>h.elim (fun h=>.inl (HLO.out k_ h).1) (fun h=>.inr (by have:=HS1.out;omega))),HB2.out,?_⟩;exact Kept.then_ (Kept.then_ (S:=P) (Kept.alloc (Kept.refl _ _) _) HK1.out (fun k hk=>.inl (HLA.out k hk).1)) HK2.out (fun k hk=>.inl (HLO.out k hk).1)
def In (a b k:Nat):Prop:=a≤k∧k<b
section
variable {α : Type} {d:Kd α} {e base n c:Nat} {W:World} {ok:Nat→Prop} {A:Option Addr} {v:Value} {xs:List α}
theorem S_in (h:Kd.S d e W base ok v xs):Kd.S d e W base (In base W.heap.size) v xs:=Kd.xs_ (Kd.S_bound h) (fun k hk=>⟨hk.2.1,hk.2.2.1⟩)
theorem R_in (h:d.R e W base ok v xs):d.R e W base (In base W.heap.size) v xs:=Kd.yk_ (Kd.R_bound h) (fun k hk=>⟨hk.2.1,hk.2.2.1⟩)
theorem S_read (h:Kd.S d e W base ok (.slice A n c) xs):d.C W A xs.length xs:=(Kd.S_reads' h).2.2
theorem S_room (h:Kd.S d e W base ok (.slice A n c) xs):xs.length≤c:=(Kd.S_reads' h).1▸(Kd.S_reads' h).2.1
theorem R_read (h:d.R e W base ok (.slice A n c) xs):d.C W A xs.length xs:=(Kd.yb_ h).2.2
theorem R_room (h:d.R e W base ok (.slice A n c) xs):xs.length≤c:=(Kd.yb_ h).1▸(Kd.yb_ h).2.1
theorem in_lt {a b c f:Nat} (h:b≤c):∀k,In a b k→¬In c f k:=fun k h1 h2=>by have:=h1.2;have:=h2.1;omega
theorem in_gt {a b c f:Nat} (h:f≤a):∀k,In a b k→¬In c f k:=fun k h1 h2=>by have:=h1.1;have:=h2.2;omega
theorem al1_ (w:World) (x:Obj):(w.alloc x).heap.size=w.heap.size+1:=by simp
end
def FnExactAlphaNet.Facts (k:Nat) (l:List S94):Prop:=
 ∃s1:Int,x0_.f k l 1048576=some s1∧(s1<0∨(0≤s1∧
  ∃(R:List S39) (al:List S50) (of:List (List Int)) (y:Int×List S50) (z:Int×List (List Int)),
   x1_.f k l=some R∧zj_.f k R=some (al,of)∧ys_.f k R=some (al,of)∧laws_eqNet.f k al of al of=some true∧
   yh_.f k R R=some true∧1+(cnS c_Rule R:Int)≤1099511627776∧yx_.f k al 1=some y∧x9_.f k of y.1=some z∧laws_heldNet.f k y.2 z.2 1=some z.1∧0≤z.1))
open Classical in
noncomputable def wi_.f (k:Nat) (l:List S94):Option Bool:=if FnExactAlphaNet.Facts k l then some true else none
set_option maxHeartbeats 16000000 in
set_option maxRecDepth 100000 in
theorem wi_.calls (k:Nat) (A0:Option Addr) (c0:Nat) (l0:List S94) (r:Bool) (w:World)
  (hr0:Kd.C k94 w A0 l0.length l0) (hc0:l0.length≤c0) (h:wi_.f k l0=some r) (htb_:TB w):
  Calls Tryz.prog 5 #[.slice A0 l0.length c0] w fun e w'=>e=.returned (.bool r)∧Below w.heap.size w w':=by
 unfold wi_.f at h
 split at h
 case isFalse=>cases h
 case isTrue hF=>
 have hr:=Option.some.inj h;subst hr;clear h;have HTB:=a_ htb_;clear htb_;have hu32:=Tryz.underlying32;have HR0:=a_ hr0;have HC0:=a_ hc0;have HB0:=a_ (Below.refl w.heap.size w);clear hr0 hc0;obtain ⟨s1,p1,hF⟩:=hF;have P1:=a_ p1;clear p1;rcases hF with hn|⟨hp,R,al,of,y,z,p3,p5,p6,p7,p8,p10,p11,p12,p14,p15⟩
 ·have hb1:decide (s1<0)=true:=decide_eq_true hn
  clear hn;go_enter Tryz.func5,Tryz.ntmps5;go_wp2_with (first
  | (go_at_call 12;refine (x0_.calls k _ _ l0 1048576 s1 _ (Kd.xo_ HR0.out HB0.out) HC0.out P1.out).mono ?_;rintro e w16 ⟨rfl,hd⟩;have hs16:w.heap.size≤w16.heap.size:=(by have h_:=hd.size;simpa using h_);have HB16:z0_ (Below w.heap.size w w16):=⟨y7_ HB0.out hd⟩;clear hd))
  go_ret;exact ⟨rfl,HB16.out⟩
 have P3:=a_ p3;have P5:=a_ p5;have P6:=a_ p6;have P7:=a_ p7;have P8:=a_ p8;have P10:=a_ p10;have P11:=a_ p11;have P12:=a_ p12;have P14:=a_ p14;have hb1:decide (s1<0)=false:=decide_eq_false (by omega)
 have hb2:decide (1+(cnS c_Rule R:Int)<0)=false:=decide_eq_false (by omega)
 have hb5:(z.1 != z.1)=false:=by simp
 have hb4:decide (z.1<0)=false:=decide_eq_false (by omega)
 clear hp p3 p5 p6 p7 p8 p10 p11 p12 p14 p15;go_enter Tryz.func5,Tryz.ntmps5
 go_wp2_with (first
  | (go_at_call 12;refine (x0_.calls k _ _ l0 1048576 s1 _ (Kd.xo_ HR0.out HB0.out) HC0.out P1.out).mono ?_;rintro e w16 ⟨rfl,hd⟩;have hs16:w.heap.size≤w16.heap.size:=(by have h_:=hd.size;simpa using h_);have HB16:z0_ (Below w.heap.size w w16):=⟨y7_ HB0.out hd⟩;clear hd)
  | (go_at_call 14;refine (x1_.calls k _ _ l0 R _ (Kd.xo_ HR0.out HB16.out) HC0.out P3.out).mono ?_;rintro e w25 ⟨v0,rfl,ho0,hd⟩;(obtain ⟨At0,ct0,e_⟩:=Kd.yv_ ho0);subst e_;have hs25:w16.heap.size≤w25.heap.size:=(by have h_:=hd.size;simpa using h_);have HB25:z0_ (Below w.heap.size w w25):=⟨y7_ HB16.out hd⟩;clear HB16;have HOt0_25:=a_ (R_in ho0);clear ho0;clear hd)
  | (go_at_call 21;refine (zj_.calls k _ _ R al of _ (R_read HOt0_25.out) (R_room HOt0_25.out) P5.out).mono ?_;rintro e w28 ⟨v0,v1,rfl,ho0,ho1,hd⟩;(obtain ⟨Aw0a,cw0a,e_⟩:=Kd.S_slice ho0);subst e_;(obtain ⟨Aw0o,cw0o,e_⟩:=Kd.S_slice ho1);subst e_;have hs28:w25.heap.size≤w28.heap.size:=(by have h_:=hd.size;simpa using h_);have HB28:z0_ (Below w.heap.size w w28):=⟨y7_ HB25.out hd⟩;clear HB25;clear HOt0_25;have HOw0a_28:=a_ (S_in ho0);clear ho0;have HOw0o_28:=a_ (S_in ho1);clear ho1;clear hd)
  | (go_at_call 14;refine (x1_.calls k _ _ l0 R _ (Kd.xo_ HR0.out (z3_ HB28.out (Obj.cells #[.slice Aw0a al.length cw0a,.slice Aw0o of.length cw0o] 32))) HC0.out P3.out).mono ?_;rintro e w30 ⟨v0,rfl,ho0,hd⟩;(obtain ⟨Ax0,cx0,e_⟩:=Kd.yv_ ho0);subst e_;have hs30:w28.heap.size+1≤w30.heap.size:=(by have h_:=hd.size;simpa using h_);have HB30:z0_ (Below w.heap.size w w30):=⟨y7_ (z3_ HB28.out (Obj.cells #[.slice Aw0a al.length cw0a,.slice Aw0o of.length cw0o] 32)) hd⟩;have HOw0a_30:=a_ (Kd.yr_ (Kd.zr_ HOw0a_28.out (Obj.cells #[.slice Aw0a al.length cw0a,.slice Aw0o of.length cw0o] 32)) hd);clear HOw0a_28;have HOw0o_30:=a_ (Kd.yr_ (Kd.zr_ HOw0o_28.out (Obj.cells #[.slice Aw0a al.length cw0a,.slice Aw0o of.length cw0o] 32)) hd);clear HOw0o_28;have BKw0_30:=a_ (zd_ (g:=w28.heap.size) (o:=.cells #[.slice Aw0a al.length cw0a,.slice Aw0o of.length cw0o] 32 (0,0)) (wh_ w28 (Obj.cells #[.slice Aw0a al.length cw0a,.slice Aw0o of.length cw0o] 32)) hd);have hcw0_0:=(z1_ BKw0_30.out 0).trans rfl;have hcw0_1:=(z1_ BKw0_30.out 1).trans rfl;simp only [List.getElem?_toArray,List.getElem?_cons_zero,List.getElem?_cons_succ] at hcw0_0 hcw0_1;have HOx0_30:=a_ (R_in ho0);clear ho0;have BL30:=a_ (y7_ (Below.refl _ _) hd);clear hd)
  | (go_at_call 7;refine (ys_.calls k _ _ R al of _ (R_read HOx0_30.out) (R_room HOx0_30.out) P6.out (HTB.out.below HB30.out)).mono ?_;rintro e w35 ⟨v0,v1,rfl,ho0,ho1,hd⟩;(obtain ⟨Ag0a,cg0a,e_⟩:=Kd.S_slice ho0);subst e_;(obtain ⟨Ag0o,cg0o,e_⟩:=Kd.S_slice ho1);subst e_;have hs35:w30.heap.size≤w35.heap.size:=(by have h_:=hd.size;simpa using h_);have HB35:z0_ (Below w.heap.size w w35):=⟨y7_ HB30.out hd⟩;clear HB30;have HOw0a_35:=a_ (Kd.yr_ HOw0a_30.out hd);clear HOw0a_30;have HOw0o_35:=a_ (Kd.yr_ HOw0o_30.out hd);clear HOw0o_30;have HOx0_35:=a_ (Kd.R_below HOx0_30.out hd);clear HOx0_30;have BKw0_35:=a_ (zd_ (g:=w28.heap.size) (o:=.cells #[.slice Aw0a al.length cw0a,.slice Aw0o of.length cw0o] 32 (0,0)) BKw0_30.out hd);clear BKw0_30 hcw0_0 hcw0_1;have hcw0_0:=(z1_ BKw0_35.out 0).trans rfl;have hcw0_1:=(z1_ BKw0_35.out 1).trans rfl;simp only [List.getElem?_toArray,List.getElem?_cons_zero,List.getElem?_cons_succ] at hcw0_0 hcw0_1;have HOg0a_35:=a_ (S_in ho0);clear ho0;have HOg0o_35:=a_ (S_in ho1);clear ho1;have BL35:=a_ (y7_ (BL30.out) hd);clear BL30;clear hd;have hqw0_0:=(z1_ (z5_ BKw0_35.out (Obj.cells #[.slice Ag0a al.length cg0a,.slice Ag0o of.length cg0o] 32)) 0).trans rfl;have hqw0_1:=(z1_ (z5_ BKw0_35.out (Obj.cells #[.slice Ag0a al.length cg0a,.slice Ag0o of.length cg0o] 32)) 1).trans rfl;simp only [List.getElem?_toArray,List.getElem?_cons_zero,List.getElem?_cons_succ] at hqw0_0 hqw0_1)
  | (go_at_call 22;refine (laws_eqNet.calls k _ _ al _ _ of _ _ al _ _ of true _ (S_read (Kd.zr_ HOg0a_35.out (Obj.cells #[.slice Ag0a al.length cg0a,.slice Ag0o of.length cg0o] 32))) (S_room (Kd.zr_ HOg0a_35.out (Obj.cells #[.slice Ag0a al.length cg0a,.slice Ag0o of.length cg0o] 32))) (S_read (Kd.zr_ HOg0o_35.out (Obj.cells #[.slice Ag0a al.length cg0a,.slice Ag0o of.length cg0o] 32))) (S_room (Kd.zr_ HOg0o_35.out (Obj.cells #[.slice Ag0a al.length cg0a,.slice Ag0o of.length cg0o] 32))) (S_read (Kd.zr_ HOw0a_35.out (Obj.cells #[.slice Ag0a al.length cg0a,.slice Ag0o of.length cg0o] 32))) (S_room (Kd.zr_ HOw0a_35.out (Obj.cells #[.slice Ag0a al.length cg0a,.slice Ag0o of.length cg0o] 32))) (S_read (Kd.zr_ HOw0o_35.out (Obj.cells #[.slice Ag0a al.length cg0a,.slice Ag0o of.length cg0o] 32))) (S_room (Kd.zr_ HOw0o_35.out (Obj.cells #[.slice Ag0a al.length cg0a,.slice Ag0o of.length cg0o] 32))) P7.out).mono ?_;rintro e w38 ⟨rfl,hd⟩;have hs38:w35.heap.size+1≤w38.heap.size:=(by have h_:=hd.size;simpa using h_);have HB38:z0_ (Below w.heap.size w w38):=⟨y7_ (z3_ HB35.out (Obj.cells #[.slice Ag0a al.length cg0a,.slice Ag0o of.length cg0o] 32)) hd⟩;clear HB35;have HOw0a_38:=a_ (Kd.yr_ (Kd.zr_ HOw0a_35.out (Obj.cells #[.slice Ag0a al.length cg0a,.slice Ag0o of.length cg0o] 32)) hd);clear HOw0a_35;have HOw0o_38:=a_ (Kd.yr_ (Kd.zr_ HOw0o_35.out (Obj.cells #[.slice Ag0a al.length cg0a,.slice Ag0o of.length cg0o] 32)) hd);clear HOw0o_35;have HOx0_38:=a_ (Kd.R_below (Kd.R_alloc HOx0_35.out (Obj.cells #[.slice Ag0a al.length cg0a,.slice Ag0o of.length cg0o] 32)) hd);clear HOx0_35;have HOg0a_38:=a_ (Kd.yr_ (Kd.zr_ HOg0a_35.out (Obj.cells #[.slice Ag0a al.length cg0a,.slice Ag0o of.length cg0o] 32)) hd);clear HOg0a_35;have HOg0o_38:=a_ (Kd.yr_ (Kd.zr_ HOg0o_35.out (Obj.cells #[.slice Ag0a al.length cg0a,.slice Ag0o of.length cg0o] 32)) hd);clear HOg0o_35;have BKw0_38:=a_ (zd_ (g:=w28.heap.size) (o:=.cells #[.slice Aw0a al.length cw0a,.slice Aw0o of.length cw0o] 32 (0,0)) (z5_ BKw0_35.out (Obj.cells #[.slice Ag0a al.length cg0a,.slice Ag0o of.length cg0o] 32)) hd);clear BKw0_35 hcw0_0 hcw0_1;have hcw0_0:=(z1_ BKw0_38.out 0).trans rfl;have hcw0_1:=(z1_ BKw0_38.out 1).trans rfl;simp only [List.getElem?_toArray,List.getElem?_cons_zero,List.getElem?_cons_succ] at hcw0_0 hcw0_1;have BKg0_38:=a_ (zd_ (g:=w35.heap.size) (o:=.cells #[.slice Ag0a al.length cg0a,.slice Ag0o of.length cg0o] 32 (0,0)) (wh_ w35 (Obj.cells #[.slice Ag0a al.length cg0a,.slice Ag0o of.length cg0o] 32)) hd);have hcg0_0:=(z1_ BKg0_38.out 0).trans rfl;have hcg0_1:=(z1_ BKg0_38.out 1).trans rfl;simp only [List.getElem?_toArray,List.getElem?_cons_zero,List.getElem?_cons_succ] at hcg0_0 hcg0_1;have BL38:=a_ (y7_ (z3_ BL35.out (Obj.cells #[.slice Ag0a al.length cg0a,.slice Ag0o of.length cg0o] 32)) hd);clear BL35;clear hd;clear hqw0_0 hqw0_1)
  | (go_at_call 14;refine (x1_.calls k _ _ l0 R _ (Kd.xo_ HR0.out HB38.out) HC0.out P3.out).mono ?_;rintro e w42 ⟨v0,rfl,ho0,hd⟩;(obtain ⟨Ar2,cr2,e_⟩:=Kd.yv_ ho0);subst e_;have hs42:w38.heap.size≤w42.heap.size:=(by have h_:=hd.size;simpa using h_);have HB42:z0_ (Below w.heap.size w w42):=⟨y7_ HB38.out hd⟩;clear HB38;have HOw0a_42:=a_ (Kd.yr_ HOw0a_38.out hd);clear HOw0a_38;have HOw0o_42:=a_ (Kd.yr_ HOw0o_38.out hd);clear HOw0o_38;have HOx0_42:=a_ (Kd.R_below HOx0_38.out hd);clear HOx0_38;have HOg0a_42:=a_ (Kd.yr_ HOg0a_38.out hd);clear HOg0a_38;have HOg0o_42:=a_ (Kd.yr_ HOg0o_38.out hd);clear HOg0o_38;have BKw0_42:=a_ (zd_ (g:=w28.heap.size) (o:=.cells #[.slice Aw0a al.length cw0a,.slice Aw0o of.length cw0o] 32 (0,0)) BKw0_38.out hd);clear BKw0_38 hcw0_0 hcw0_1;have hcw0_0:=(z1_ BKw0_42.out 0).trans rfl;have hcw0_1:=(z1_ BKw0_42.out 1).trans rfl;simp only [List.getElem?_toArray,List.getElem?_cons_zero,List.getElem?_cons_succ] at hcw0_0 hcw0_1;have BKg0_42:=a_ (zd_ (g:=w35.heap.size) (o:=.cells #[.slice Ag0a al.length cg0a,.slice Ag0o of.length cg0o] 32 (0,0)) BKg0_38.out hd);clear BKg0_38 hcg0_0 hcg0_1;have hcg0_0:=(z1_ BKg0_42.out 0).trans rfl;have hcg0_1:=(z1_ BKg0_42.out 1).trans rfl;simp only [List.getElem?_toArray,List.getElem?_cons_zero,List.getElem?_cons_succ] at hcg0_0 hcg0_1;have HOr2_42:=a_ (R_in ho0);clear ho0;have BL42:=a_ (y7_ (BL38.out) hd);clear BL38;clear hd)
  | (go_at_call 17;refine (yh_.calls k _ _ R _ _ R true _ (R_read HOx0_42.out) (R_room HOx0_42.out) (R_read HOr2_42.out) (R_room HOr2_42.out) P8.out).mono ?_;rintro e w43 ⟨rfl,hd⟩;have hs43:w42.heap.size≤w43.heap.size:=(by have h_:=hd.size;simpa using h_);have HB43:z0_ (Below w.heap.size w w43):=⟨y7_ HB42.out hd⟩;clear HB42;have HOw0a_43:=a_ (Kd.yr_ HOw0a_42.out hd);clear HOw0a_42;have HOw0o_43:=a_ (Kd.yr_ HOw0o_42.out hd);clear HOw0o_42;have HOx0_43:=a_ (Kd.R_below HOx0_42.out hd);clear HOx0_42;have HOg0a_43:=a_ (Kd.yr_ HOg0a_42.out hd);clear HOg0a_42;have HOg0o_43:=a_ (Kd.yr_ HOg0o_42.out hd);clear HOg0o_42;clear HOr2_42;have BKw0_43:=a_ (zd_ (g:=w28.heap.size) (o:=.cells #[.slice Aw0a al.length cw0a,.slice Aw0o of.length cw0o] 32 (0,0)) BKw0_42.out hd);clear BKw0_42 hcw0_0 hcw0_1;have hcw0_0:=(z1_ BKw0_43.out 0).trans rfl;have hcw0_1:=(z1_ BKw0_43.out 1).trans rfl;simp only [List.getElem?_toArray,List.getElem?_cons_zero,List.getElem?_cons_succ] at hcw0_0 hcw0_1;have BKg0_43:=a_ (zd_ (g:=w35.heap.size) (o:=.cells #[.slice Ag0a al.length cg0a,.slice Ag0o of.length cg0o] 32 (0,0)) BKg0_42.out hd);clear BKg0_42 hcg0_0 hcg0_1;have hcg0_0:=(z1_ BKg0_43.out 0).trans rfl;have hcg0_1:=(z1_ BKg0_43.out 1).trans rfl;simp only [List.getElem?_toArray,List.getElem?_cons_zero,List.getElem?_cons_succ] at hcg0_0 hcg0_1;have BL43:=a_ (y7_ (BL42.out) hd);clear BL42;clear hd)
  | (go_at_call 18;refine (sc_markRuleS (w28.alloc (Obj.cells #[.slice Aw0a al.length cw0a,.slice Aw0o of.length cw0o] 32)) w43 _ (In ((w28.alloc (Obj.cells #[.slice Aw0a al.length cw0a,.slice Aw0o of.length cw0o] 32))).heap.size w30.heap.size) _ _ R 1 HOx0_43.out (fun _ h=>h) (Sc.refl _ _) BL43.out (by decide) P10.out (R_read HOx0_43.out).2.1).mono ?_;rintro e w52 ⟨rfl,hs_,hb_⟩;have eW:=al1_ w28 (Obj.cells #[.slice Aw0a al.length cw0a,.slice Aw0o of.length cw0o] 32);have hk:=hs_.2.2;have hs52:w43.heap.size≤w52.heap.size:=(by have h_:=hk.1;simpa using h_);have HB52:z0_ (Below w.heap.size w w52):=⟨y7_ (z3_ HB28.out _) hb_⟩;clear HB43;have HOw0a_52:=a_ (Kd.S_kept HOw0a_43.out hk (in_lt (by omega)));clear HOw0a_43;have HOw0o_52:=a_ (Kd.S_kept HOw0o_43.out hk (in_lt (by omega)));clear HOw0o_43;clear HOx0_43;have HOg0a_52:=a_ (Kd.S_kept HOg0a_43.out hk (in_gt (by omega)));clear HOg0a_43;have HOg0o_52:=a_ (Kd.S_kept HOg0o_43.out hk (in_gt (by omega)));clear HOg0o_43;have BKw0_52:=a_ (blk_kept (g:=w28.heap.size) BKw0_43.out hk (fun h_=>(by have h1:=h_.1;omega)));clear BKw0_43 hcw0_0 hcw0_1;have hcw0_0:=(z1_ BKw0_52.out 0).trans rfl;have hcw0_1:=(z1_ BKw0_52.out 1).trans rfl;simp only [List.getElem?_toArray,List.getElem?_cons_zero,List.getElem?_cons_succ] at hcw0_0 hcw0_1;have BKg0_52:=a_ (blk_kept (g:=w35.heap.size) BKg0_43.out hk (fun h_=>(by have h1:=h_.2;omega)));clear BKg0_43 hcg0_0 hcg0_1;have hcg0_0:=(z1_ BKg0_52.out 0).trans rfl;have hcg0_1:=(z1_ BKg0_52.out 1).trans rfl;simp only [List.getElem?_toArray,List.getElem?_cons_zero,List.getElem?_cons_succ] at hcg0_0 hcg0_1;clear hk;clear hs_ hb_ BL43 HB28)
  | (go_at_call 22;refine (laws_eqNet.calls k _ _ al _ _ of _ _ al _ _ of true _ (S_read HOg0a_52.out) (S_room HOg0a_52.out) (S_read HOg0o_52.out) (S_room HOg0o_52.out) (S_read HOw0a_52.out) (S_room HOw0a_52.out) (S_read HOw0o_52.out) (S_room HOw0o_52.out) P7.out).mono ?_;rintro e w61 ⟨rfl,hd⟩;have hs61:w52.heap.size≤w61.heap.size:=(by have h_:=hd.size;simpa using h_);have HB61:z0_ (Below w.heap.size w w61):=⟨y7_ HB52.out hd⟩;clear HB52;have HOw0a_61:=a_ (Kd.yr_ HOw0a_52.out hd);clear HOw0a_52;have HOw0o_61:=a_ (Kd.yr_ HOw0o_52.out hd);clear HOw0o_52;have HOg0a_61:=a_ (Kd.yr_ HOg0a_52.out hd);clear HOg0a_52;have HOg0o_61:=a_ (Kd.yr_ HOg0o_52.out hd);clear HOg0o_52;have BKw0_61:=a_ (zd_ (g:=w28.heap.size) (o:=.cells #[.slice Aw0a al.length cw0a,.slice Aw0o of.length cw0o] 32 (0,0)) BKw0_52.out hd);clear BKw0_52 hcw0_0 hcw0_1;have hcw0_0:=(z1_ BKw0_61.out 0).trans rfl;have hcw0_1:=(z1_ BKw0_61.out 1).trans rfl;simp only [List.getElem?_toArray,List.getElem?_cons_zero,List.getElem?_cons_succ] at hcw0_0 hcw0_1;have BKg0_61:=a_ (zd_ (g:=w35.heap.size) (o:=.cells #[.slice Ag0a al.length cg0a,.slice Ag0o of.length cg0o] 32 (0,0)) BKg0_52.out hd);clear BKg0_52 hcg0_0 hcg0_1;have hcg0_0:=(z1_ BKg0_61.out 0).trans rfl;have hcg0_1:=(z1_ BKg0_61.out 1).trans rfl;simp only [List.getElem?_toArray,List.getElem?_cons_zero,List.getElem?_cons_succ] at hcg0_0 hcg0_1;clear hd)
  | (go_at_call 23;refine (markNet_full k (In w30.heap.size w35.heap.size) _ _ al of 1 y z w _ HB61.out (Kd.S_lower HOg0a_61.out (by omega)) (Kd.S_lower HOg0o_61.out (by omega)) P11.out P12.out).mono ?_;rintro e w66 ⟨rfl,ho,ho2,hb,hk⟩;have HOma_66:=a_ ho;have HOmo_66:=a_ ho2;have HLA:z0_ (al.length=y.2.length):=⟨(Kd.S_reads' ho).1⟩;have HLO:z0_ (of.length=z.2.length):=⟨(Kd.S_reads' ho2).1⟩;clear ho ho2;have hs66:w61.heap.size≤w66.heap.size:=(by have h_:=hk.1;simpa using h_);have HB66:z0_ (Below w.heap.size w w66):=⟨hb⟩;clear HB61;have HOw0a_66:=a_ (Kd.S_kept HOw0a_61.out hk (in_lt (by omega)));clear HOw0a_61;have HOw0o_66:=a_ (Kd.S_kept HOw0o_61.out hk (in_lt (by omega)));clear HOw0o_61;clear HOg0a_61;clear HOg0o_61;have BKw0_66:=a_ (blk_kept (g:=w28.heap.size) BKw0_61.out hk (fun h_=>(by have h1:=h_.1;omega)));clear BKw0_61 hcw0_0 hcw0_1;have hcw0_0:=(z1_ BKw0_66.out 0).trans rfl;have hcw0_1:=(z1_ BKw0_66.out 1).trans rfl;simp only [List.getElem?_toArray,List.getElem?_cons_zero,List.getElem?_cons_succ] at hcw0_0 hcw0_1;have BKg0_66:=a_ (blk_kept (g:=w35.heap.size) BKg0_61.out hk (fun h_=>(by have h1:=h_.2;omega)));clear BKg0_61 hcg0_0 hcg0_1;have hcg0_0:=(z1_ BKg0_66.out 0).trans rfl;have hcg0_1:=(z1_ BKg0_66.out 1).trans rfl;simp only [List.getElem?_toArray,List.getElem?_cons_zero,List.getElem?_cons_succ] at hcg0_0 hcg0_1;clear hk;clear hb)
  | (go_at_call 24;refine (calls_of_args (args':=#[.agg #[.slice Ag0a y.2.length cg0a,.slice Ag0o z.2.length cg0o],.int .i64 1]) (by rw [HLA.out,HLO.out]) (laws_heldNet.calls k _ _ y.2 _ _ z.2 1 z.1 _ (S_read HOma_66.out) (S_room HOma_66.out) (S_read HOmo_66.out) (S_room HOmo_66.out) P14.out)).mono ?_;rintro e w69 ⟨rfl,hd⟩;have hs69:w66.heap.size≤w69.heap.size:=(by have h_:=hd.size;simpa using h_);have HB69:z0_ (Below w.heap.size w w69):=⟨y7_ HB66.out hd⟩;clear HB66;have HOw0a_69:=a_ (Kd.yr_ HOw0a_66.out hd);clear HOw0a_66;have HOw0o_69:=a_ (Kd.yr_ HOw0o_66.out hd);clear HOw0o_66;have HOma_69:=a_ (Kd.yr_ HOma_66.out hd);clear HOma_66;have HOmo_69:=a_ (Kd.yr_ HOmo_66.out hd);clear HOmo_66;have BKw0_69:=a_ (zd_ (g:=w28.heap.size) (o:=.cells #[.slice Aw0a al.length cw0a,.slice Aw0o of.length cw0o] 32 (0,0)) BKw0_66.out hd);clear BKw0_66 hcw0_0 hcw0_1;have hcw0_0:=(z1_ BKw0_69.out 0).trans rfl;have hcw0_1:=(z1_ BKw0_69.out 1).trans rfl;simp only [List.getElem?_toArray,List.getElem?_cons_zero,List.getElem?_cons_succ] at hcw0_0 hcw0_1;have BKg0_69:=a_ (zd_ (g:=w35.heap.size) (o:=.cells #[.slice Ag0a al.length cg0a,.slice Ag0o of.length cg0o] 32 (0,0)) BKg0_66.out hd);clear BKg0_66 hcg0_0 hcg0_1;have hcg0_0:=(z1_ BKg0_69.out 0).trans rfl;have hcg0_1:=(z1_ BKg0_69.out 1).trans rfl;simp only [List.getElem?_toArray,List.getElem?_cons_zero,List.getElem?_cons_succ] at hcg0_0 hcg0_1;clear hd)
  | (go_at_call 14;refine (x1_.calls k _ _ l0 R _ (Kd.xo_ HR0.out HB69.out) HC0.out P3.out).mono ?_;rintro e w76 ⟨v0,rfl,ho0,hd⟩;(obtain ⟨Ar3,cr3,e_⟩:=Kd.yv_ ho0);subst e_;have hs76:w69.heap.size≤w76.heap.size:=(by have h_:=hd.size;simpa using h_);have HB76:z0_ (Below w.heap.size w w76):=⟨y7_ HB69.out hd⟩;clear HB69;have HOw0a_76:=a_ (Kd.yr_ HOw0a_69.out hd);clear HOw0a_69;have HOw0o_76:=a_ (Kd.yr_ HOw0o_69.out hd);clear HOw0o_69;have HOma_76:=a_ (Kd.yr_ HOma_69.out hd);clear HOma_69;have HOmo_76:=a_ (Kd.yr_ HOmo_69.out hd);clear HOmo_69;have BKw0_76:=a_ (zd_ (g:=w28.heap.size) (o:=.cells #[.slice Aw0a al.length cw0a,.slice Aw0o of.length cw0o] 32 (0,0)) BKw0_69.out hd);clear BKw0_69 hcw0_0 hcw0_1;have hcw0_0:=(z1_ BKw0_76.out 0).trans rfl;have hcw0_1:=(z1_ BKw0_76.out 1).trans rfl;simp only [List.getElem?_toArray,List.getElem?_cons_zero,List.getElem?_cons_succ] at hcw0_0 hcw0_1;have BKg0_76:=a_ (zd_ (g:=w35.heap.size) (o:=.cells #[.slice Ag0a al.length cg0a,.slice Ag0o of.length cg0o] 32 (0,0)) BKg0_69.out hd);clear BKg0_69 hcg0_0 hcg0_1;have hcg0_0:=(z1_ BKg0_76.out 0).trans rfl;have hcg0_1:=(z1_ BKg0_76.out 1).trans rfl;simp only [List.getElem?_toArray,List.getElem?_cons_zero,List.getElem?_cons_succ] at hcg0_0 hcg0_1;have HOr3_76:=a_ (R_in ho0);clear ho0;clear hd)
  | (go_at_call 7;refine (ys_.calls k _ _ R al of _ (R_read HOr3_76.out) (R_room HOr3_76.out) P6.out (HTB.out.below HB76.out)).mono ?_;rintro e w79 ⟨v0,v1,rfl,ho0,ho1,hd⟩;(obtain ⟨Ah0a,ch0a,e_⟩:=Kd.S_slice ho0);subst e_;(obtain ⟨Ah0o,ch0o,e_⟩:=Kd.S_slice ho1);subst e_;have hs79:w76.heap.size≤w79.heap.size:=(by have h_:=hd.size;simpa using h_);have HB79:z0_ (Below w.heap.size w w79):=⟨y7_ HB76.out hd⟩;clear HB76;have HOw0a_79:=a_ (Kd.yr_ HOw0a_76.out hd);clear HOw0a_76;have HOw0o_79:=a_ (Kd.yr_ HOw0o_76.out hd);clear HOw0o_76;have HOma_79:=a_ (Kd.yr_ HOma_76.out hd);clear HOma_76;have HOmo_79:=a_ (Kd.yr_ HOmo_76.out hd);clear HOmo_76;clear HOr3_76;have BKw0_79:=a_ (zd_ (g:=w28.heap.size) (o:=.cells #[.slice Aw0a al.length cw0a,.slice Aw0o of.length cw0o] 32 (0,0)) BKw0_76.out hd);clear BKw0_76 hcw0_0 hcw0_1;have hcw0_0:=(z1_ BKw0_79.out 0).trans rfl;have hcw0_1:=(z1_ BKw0_79.out 1).trans rfl;simp only [List.getElem?_toArray,List.getElem?_cons_zero,List.getElem?_cons_succ] at hcw0_0 hcw0_1;have BKg0_79:=a_ (zd_ (g:=w35.heap.size) (o:=.cells #[.slice Ag0a al.length cg0a,.slice Ag0o of.length cg0o] 32 (0,0)) BKg0_76.out hd);clear BKg0_76 hcg0_0 hcg0_1;have hcg0_0:=(z1_ BKg0_79.out 0).trans rfl;have hcg0_1:=(z1_ BKg0_79.out 1).trans rfl;simp only [List.getElem?_toArray,List.getElem?_cons_zero,List.getElem?_cons_succ] at hcg0_0 hcg0_1;have HOh0a_79:=a_ (S_in ho0);clear ho0;have HOh0o_79:=a_ (S_in ho1);clear ho1;clear hd;have hqw0_0:=(z1_ (z5_ BKw0_79.out (Obj.cells #[.slice Ah0a al.length ch0a,.slice Ah0o of.length ch0o] 32)) 0).trans rfl;have hqw0_1:=(z1_ (z5_ BKw0_79.out (Obj.cells #[.slice Ah0a al.length ch0a,.slice Ah0o of.length ch0o] 32)) 1).trans rfl;simp only [List.getElem?_toArray,List.getElem?_cons_zero,List.getElem?_cons_succ] at hqw0_0 hqw0_1;have hqg0_0:=(z1_ (z5_ BKg0_79.out (Obj.cells #[.slice Ah0a al.length ch0a,.slice Ah0o of.length ch0o] 32)) 0).trans rfl;have hqg0_1:=(z1_ (z5_ BKg0_79.out (Obj.cells #[.slice Ah0a al.length ch0a,.slice Ah0o of.length ch0o] 32)) 1).trans rfl;simp only [List.getElem?_toArray,List.getElem?_cons_zero,List.getElem?_cons_succ] at hqg0_0 hqg0_1)
  | (go_at_call 22;refine (laws_eqNet.calls k _ _ al _ _ of _ _ al _ _ of true _ (S_read (Kd.zr_ HOh0a_79.out (Obj.cells #[.slice Ah0a al.length ch0a,.slice Ah0o of.length ch0o] 32))) (S_room (Kd.zr_ HOh0a_79.out (Obj.cells #[.slice Ah0a al.length ch0a,.slice Ah0o of.length ch0o] 32))) (S_read (Kd.zr_ HOh0o_79.out (Obj.cells #[.slice Ah0a al.length ch0a,.slice Ah0o of.length ch0o] 32))) (S_room (Kd.zr_ HOh0o_79.out (Obj.cells #[.slice Ah0a al.length ch0a,.slice Ah0o of.length ch0o] 32))) (S_read (Kd.zr_ HOw0a_79.out (Obj.cells #[.slice Ah0a al.length ch0a,.slice Ah0o of.length ch0o] 32))) (S_room (Kd.zr_ HOw0a_79.out (Obj.cells #[.slice Ah0a al.length ch0a,.slice Ah0o of.length ch0o] 32))) (S_read (Kd.zr_ HOw0o_79.out (Obj.cells #[.slice Ah0a al.length ch0a,.slice Ah0o of.length ch0o] 32))) (S_room (Kd.zr_ HOw0o_79.out (Obj.cells #[.slice Ah0a al.length ch0a,.slice Ah0o of.length ch0o] 32))) P7.out).mono ?_;rintro e w82 ⟨rfl,hd⟩;have hs82:w79.heap.size+1≤w82.heap.size:=(by have h_:=hd.size;simpa using h_);have HB82:z0_ (Below w.heap.size w w82):=⟨y7_ (z3_ HB79.out (Obj.cells #[.slice Ah0a al.length ch0a,.slice Ah0o of.length ch0o] 32)) hd⟩;clear HB79;have HOw0a_82:=a_ (Kd.yr_ (Kd.zr_ HOw0a_79.out (Obj.cells #[.slice Ah0a al.length ch0a,.slice Ah0o of.length ch0o] 32)) hd);clear HOw0a_79;have HOw0o_82:=a_ (Kd.yr_ (Kd.zr_ HOw0o_79.out (Obj.cells #[.slice Ah0a al.length ch0a,.slice Ah0o of.length ch0o] 32)) hd);clear HOw0o_79;have HOma_82:=a_ (Kd.yr_ (Kd.zr_ HOma_79.out (Obj.cells #[.slice Ah0a al.length ch0a,.slice Ah0o of.length ch0o] 32)) hd);clear HOma_79;have HOmo_82:=a_ (Kd.yr_ (Kd.zr_ HOmo_79.out (Obj.cells #[.slice Ah0a al.length ch0a,.slice Ah0o of.length ch0o] 32)) hd);clear HOmo_79;clear HOh0a_79;clear HOh0o_79;have BKw0_82:=a_ (zd_ (g:=w28.heap.size) (o:=.cells #[.slice Aw0a al.length cw0a,.slice Aw0o of.length cw0o] 32 (0,0)) (z5_ BKw0_79.out (Obj.cells #[.slice Ah0a al.length ch0a,.slice Ah0o of.length ch0o] 32)) hd);clear BKw0_79 hcw0_0 hcw0_1;have hcw0_0:=(z1_ BKw0_82.out 0).trans rfl;have hcw0_1:=(z1_ BKw0_82.out 1).trans rfl;simp only [List.getElem?_toArray,List.getElem?_cons_zero,List.getElem?_cons_succ] at hcw0_0 hcw0_1;have BKg0_82:=a_ (zd_ (g:=w35.heap.size) (o:=.cells #[.slice Ag0a al.length cg0a,.slice Ag0o of.length cg0o] 32 (0,0)) (z5_ BKg0_79.out (Obj.cells #[.slice Ah0a al.length ch0a,.slice Ah0o of.length ch0o] 32)) hd);clear BKg0_79 hcg0_0 hcg0_1;have hcg0_0:=(z1_ BKg0_82.out 0).trans rfl;have hcg0_1:=(z1_ BKg0_82.out 1).trans rfl;simp only [List.getElem?_toArray,List.getElem?_cons_zero,List.getElem?_cons_succ] at hcg0_0 hcg0_1;have BKh0_82:=a_ (zd_ (g:=w79.heap.size) (o:=.cells #[.slice Ah0a al.length ch0a,.slice Ah0o of.length ch0o] 32 (0,0)) (wh_ w79 (Obj.cells #[.slice Ah0a al.length ch0a,.slice Ah0o of.length ch0o] 32)) hd);have hch0_0:=(z1_ BKh0_82.out 0).trans rfl;have hch0_1:=(z1_ BKh0_82.out 1).trans rfl;simp only [List.getElem?_toArray,List.getElem?_cons_zero,List.getElem?_cons_succ] at hch0_0 hch0_1;clear hd;clear hqw0_0 hqw0_1;clear hqg0_0 hqg0_1)
  | (go_at_call 24;refine (calls_of_args (args':=#[.agg #[.slice Ag0a y.2.length cg0a,.slice Ag0o z.2.length cg0o],.int .i64 1]) (by rw [HLA.out,HLO.out]) (laws_heldNet.calls k _ _ y.2 _ _ z.2 1 z.1 _ (S_read HOma_82.out) (S_room HOma_82.out) (S_read HOmo_82.out) (S_room HOmo_82.out) P14.out)).mono ?_;rintro e w86 ⟨rfl,hd⟩;have hs86:w82.heap.size≤w86.heap.size:=(by have h_:=hd.size;simpa using h_);have HB86:z0_ (Below w.heap.size w w86):=⟨y7_ HB82.out hd⟩;clear HB82;have HOw0a_86:=a_ (Kd.yr_ HOw0a_82.out hd);clear HOw0a_82;have HOw0o_86:=a_ (Kd.yr_ HOw0o_82.out hd);clear HOw0o_82;have HOma_86:=a_ (Kd.yr_ HOma_82.out hd);clear HOma_82;have HOmo_86:=a_ (Kd.yr_ HOmo_82.out hd);clear HOmo_82;have BKw0_86:=a_ (zd_ (g:=w28.heap.size) (o:=.cells #[.slice Aw0a al.length cw0a,.slice Aw0o of.length cw0o] 32 (0,0)) BKw0_82.out hd);clear BKw0_82 hcw0_0 hcw0_1;have hcw0_0:=(z1_ BKw0_86.out 0).trans rfl;have hcw0_1:=(z1_ BKw0_86.out 1).trans rfl;simp only [List.getElem?_toArray,List.getElem?_cons_zero,List.getElem?_cons_succ] at hcw0_0 hcw0_1;have BKg0_86:=a_ (zd_ (g:=w35.heap.size) (o:=.cells #[.slice Ag0a al.length cg0a,.slice Ag0o of.length cg0o] 32 (0,0)) BKg0_82.out hd);clear BKg0_82 hcg0_0 hcg0_1;have hcg0_0:=(z1_ BKg0_86.out 0).trans rfl;have hcg0_1:=(z1_ BKg0_86.out 1).trans rfl;simp only [List.getElem?_toArray,List.getElem?_cons_zero,List.getElem?_cons_succ] at hcg0_0 hcg0_1;have BKh0_86:=a_ (zd_ (g:=w79.heap.size) (o:=.cells #[.slice Ah0a al.length ch0a,.slice Ah0o of.length ch0o] 32 (0,0)) BKh0_82.out hd);clear BKh0_82 hch0_0 hch0_1;have hch0_0:=(z1_ BKh0_86.out 0).trans rfl;have hch0_1:=(z1_ BKh0_86.out 1).trans rfl;simp only [List.getElem?_toArray,List.getElem?_cons_zero,List.getElem?_cons_succ] at hch0_0 hch0_1;clear hd))
 go_ret;exact ⟨rfl,HB86.out⟩
theorem goodSym_loop (s:ByteArray) (hs:s.size≤9223372036854775807):∀i,i≤s.size→Ev (fun k=>z8_.l0 k s (i:Int)) (symFrom s i):=by
 refine up_ind ?_ ?_
 ·rw [symFrom_end];refine Ev.step (fun k=>by simp only [z8_.l0];exact rfl) ?_;exact Ev.ifF (by omega) (Ev.now _)
 ·intro i hi ih;rw [symFrom_step s i hi];refine Ev.step (fun k=>by simp only [z8_.l0,x7_ hi hs];exact rfl) ?_;refine Ev.ifT (by omega) ?_;refine Ev.ifT (by omega) ?_;generalize bt s (i:Int)=c
  have good:symOk c=true→Ev (fun k=>z8_.l0 k s ((i+1:Nat):Int)) (symOk c&&symFrom s (i+1)):=by
   intro h;rw [h,Bool.true_and];exact ih
  have bad:symOk c=false→Ev (fun _=>some false) (symOk c&&symFrom s (i+1)):=by
   intro h;rw [h,Bool.false_and];exact Ev.now _
  repeat (first
   | exact good (by simp [symOk];omega)
   | exact bad (by simp [symOk];omega)
   | refine Ev.ite (fun _=>?_) (fun _=>?_))
theorem l1GoodSym_some (s:ByteArray):Ev (fun k=>z8_.f k s) (xm_ s):=by
 have hj:∀(b:Bool),s.size≤20→Ev (fun k=>z8_.j0 k s b) (if b=true then false else symFrom s 0):=by
  intro b hs;refine Ev.step (fun k=>by simp only [z8_.j0];exact rfl) ?_;cases b with
  | true=>exact Ev.ifT (by trivial) (Ev.now _)
  | false=>exact Ev.ifF (by simp) (goodSym_loop s (by omega) 0 (by omega))
 have hj1:Ev (fun k=>z8_.j0 k s true) false:=by
  refine Ev.step (fun k=>by simp only [z8_.j0];exact rfl) ?_;exact Ev.ifT (by trivial) (Ev.now _)
 unfold xm_
 refine Ev.congr (fun k=>by unfold z8_.f;exact rfl) ?_;by_cases c1:s.size=0
 ·rw [if_pos c1];exact Ev.ifT (by omega) hj1
 rw [if_neg c1];refine Ev.ifF (by omega) ?_;by_cases c2:20<s.size
 ·rw [if_pos c2];exact Ev.ifT (by omega) hj1
 rw [if_neg c2];refine Ev.ifF (by omega) ?_;refine Ev.ifT (by omega) ?_;by_cases c3:bt s 0<97
 ·rw [if_pos c3];exact Ev.ifT (by omega) hj1
 rw [if_neg c3];refine Ev.ifF (by omega) ?_;refine Ev.as (hj _ (by omega)) ?_;by_cases c4:122<bt s 0
 ·rw [if_pos c4,if_pos (by simpa using c4)]
 ·rw [if_neg c4,if_neg (by simpa using c4)]
theorem xh_ (s:ByteArray):s.toList=[]↔s.toList.isEmpty=true:=by rw [List.isEmpty_iff]
theorem goodValueB_def (v:S80):goodValueB v=if v.f0=0 then v.f2.toList.isEmpty else if v.f0=1 then (if v.f1=0 then xm_ v.f2 else false) else false:=by
 unfold goodValueB w5_.f xe_.f
 simp only [Option.bind_some];by_cases h:v.f0=0
 ·rw [if_pos h,if_pos h];simp only [Option.getD_some];rw [Bool.eq_iff_iff,beq_iff_eq];exact xh_ _
 ·rw [if_neg h,if_neg h];split
  ·split<;>rfl
  ·rfl
theorem l1GoodVal_some (v:S80):Ev (fun k=>xj_.f k v.f0 v.f1 v.f2) (goodValueB v):=by
 rw [goodValueB_def];refine Ev.congr (fun k=>by unfold xj_.f;exact rfl) ?_;refine Ev.ite (fun c0=>?_) (fun c0=>?_)
 ·rw [if_pos c0];refine Ev.ite (fun c1=>?_) (fun c1=>?_)
  ·exact Ev.as (Ev.now _) ((xh_ _).1 c1).symm
  ·rw [xh_,Bool.not_eq_true] at c1;rw [c1];exact Ev.ifF (by omega) (Ev.now _)
 ·rw [if_neg c0];refine Ev.ite (fun c1=>?_) (fun c1=>?_)
  ·rw [if_pos c1];refine Ev.ite (fun c2=>?_) (fun c2=>?_)
   ·rw [if_pos c2];exact Ev.bind (l1GoodSym_some _) (Ev.now _)
   ·rw [if_neg c2];exact Ev.now _
  ·rw [if_neg c1];exact Ev.now _
theorem l2GoodCls_some (s:ByteArray):Ev (fun k=>xi_.f k s) (goodClsB s):=by
 refine Ev.congr (fun k=>by unfold xi_.f;exact rfl) ?_;refine Ev.bind (l1GoodSym_some _) ?_;unfold goodClsB
 refine Ev.ite (fun c0=>?_) (fun c0=>?_)
 ·rw [c0];exact Ev.now _
 ·rw [Bool.not_eq_true] at c0;rw [c0];exact Ev.now _
theorem l2Zero_some (v:S80):wa_.f v.f0 v.f1 v.f2=some (zeroValB v):=by
 unfold wa_.f zeroValB
 have e:(v.f2.toList==([]:List UInt8))=v.f2.toList.isEmpty:=by
  rw [Bool.eq_iff_iff,beq_iff_eq];exact xh_ _
 rw [e]
theorem goodSymB_nil (s:ByteArray) (h:s.toList.isEmpty=true):xm_ s=false:=by
 have:s.size=0:=by
  rw [←xh_,ByteArray.toList_eq] at h;have:=congrArg List.length h
  rw [Array.length_toList] at this;simpa using this
 unfold xm_
 rw [if_pos this]
theorem l2GoodTerm_some (t:S86):Ev (fun k=>xt_.f k t.f0 t.f1 t.f2 t.f3.f0 t.f3.f1 t.f3.f2) (ym_ t):=by
 refine Ev.congr (fun k=>by unfold xt_.f;exact rfl) ?_;unfold ym_
 have hz:=l2Zero_some t.f3;have hv:=l1GoodVal_some t.f3;have hs:=l1GoodSym_some t.f2;refine Ev.ite (fun c0=>?_) (fun c0=>?_)
 ·rw [if_pos c0];refine Ev.ite (fun c1=>?_) (fun c1=>?_)
  ·refine Ev.ite (fun c2=>?_) (fun c2=>?_)
   ·rw [xh_] at c2;refine Ev.bindE hz (Ev.as (Ev.now _) ?_);rw [c1,c2];rfl
   ·rw [xh_,Bool.not_eq_true] at c2;refine Ev.as (Ev.now _) ?_;rw [c1,c2];rfl
  ·refine Ev.as (Ev.now _) ?_;rw [beq_eq_false_iff_ne.mpr c1];rfl
 rw [if_neg c0];refine Ev.ite (fun c0=>?_) (fun c0=>?_)
 ·rw [if_pos c0];refine Ev.ite (fun c1=>?_) (fun c1=>?_)
  ·refine Ev.ite (fun c2=>?_) (fun c2=>?_)
   ·rw [xh_] at c2;refine Ev.bind hv (Ev.as (Ev.now _) ?_);rw [c1,c2];rfl
   ·rw [xh_,Bool.not_eq_true] at c2;refine Ev.as (Ev.now _) ?_;rw [c1,c2];rfl
  ·refine Ev.as (Ev.now _) ?_;rw [beq_eq_false_iff_ne.mpr c1];rfl
 rw [if_neg c0];refine Ev.ite (fun c0=>?_) (fun c0=>?_)
 ·rw [if_pos c0];refine Ev.ite (fun c1=>?_) (fun c1=>?_)
  ·refine Ev.bind hs ?_;refine Ev.ite (fun c2=>?_) (fun c2=>?_)
   ·refine Ev.bindE hz (Ev.as (Ev.now _) ?_);rw [c1,c2];simp
   ·rw [Bool.not_eq_true] at c2;refine Ev.as (Ev.now _) ?_;rw [c2];simp
  ·refine Ev.as (Ev.now _) ?_;rw [beq_eq_false_iff_ne.mpr c1];rfl
 rw [if_neg c0];refine Ev.ite (fun c0=>?_) (fun c0=>?_)
 ·rw [if_pos c0];refine Ev.ite (fun c1=>?_) (fun c1=>?_)
  ·rw [if_neg (by omega)];refine Ev.ite (fun c2=>?_) (fun c2=>?_)
   ·rw [if_neg (by omega)];refine Ev.ite (fun c3=>?_) (fun c3=>?_)
    ·rw [xh_] at c3;rw [if_pos c3];refine Ev.bind hv ?_;refine Ev.ite (fun c4=>?_) (fun c4=>?_)
     ·rw [c4];exact Ev.now _
     ·rw [Bool.not_eq_true] at c4;rw [c4];refine Ev.bind hs ?_;refine Ev.ifF ?_ (Ev.now _);rw [goodSymB_nil _ c3];simp
    ·rw [xh_] at c3;rw [if_neg c3];refine Ev.bind hs ?_;refine Ev.ite (fun c4=>?_) (fun c4=>?_)
     ·rw [c4,Bool.true_and];exact Ev.bindE hz (Ev.now _)
     ·rw [Bool.not_eq_true] at c4;rw [c4];exact Ev.now _
   ·rw [if_pos (by omega)];exact Ev.now _
  ·rw [if_pos (by omega)];exact Ev.now _
 rw [if_neg c0];exact Ev.now _
theorem l2GoodPat_loop (ts:List S86) (hl:ts.length≤9223372036854775807):∀i,i≤ts.length→Ev (fun k=>zo_.l0 k ts (ts.length:Int) (i:Int)) ((ts.drop i).all ym_):=by
 refine up_ind ?_ ?_
 ·rw [List.drop_length];refine Ev.step (fun k=>by simp only [zo_.l0];exact rfl) ?_;exact Ev.ifF (by omega) (Ev.now _)
 ·intro i hi ih;rw [drop_getD z86 hi,List.all_cons];have hrd:z6_ ts (i:Int)=ts.getD i z86:=by simp [z6_]
  refine Ev.step (fun k=>by simp only [zo_.l0,x7_ hi hl,hrd];exact rfl) ?_;refine Ev.ifT (by omega) ?_;refine Ev.ifT (by omega) ?_;refine Ev.ifT (by omega) ?_;refine Ev.bind (l2GoodTerm_some (ts.getD i z86)) ?_;refine Ev.ite (fun c=>?_) (fun c=>?_)
  ·rw [c,Bool.true_and];exact ih
  ·rw [Bool.not_eq_true] at c;rw [c];exact Ev.now _
theorem l2GoodPat_some (neg:Bool) (cls:ByteArray) (ts:List S86):Ev (fun k=>zo_.f k neg cls ts) (wo_ cls ts):=by
 refine Ev.congr (fun k=>by unfold zo_.f;exact rfl) ?_;unfold wo_
 refine Ev.bind (l2GoodCls_some _) ?_;refine Ev.ite (fun c=>?_) (fun c=>?_)
 ·rw [c,Bool.true_and];refine Ev.step (fun k=>by simp only [zo_.j0];exact rfl) ?_;by_cases h:ts.length≤6
  ·refine Ev.ifF (by simp;omega) ?_;rw [decide_eq_true h,Bool.true_and];have:=l2GoodPat_loop ts (by omega) 0 (Nat.zero_le _)
   rw [List.drop_zero] at this;exact this
  ·refine Ev.ifT (by simp;omega) ?_;rw [decide_eq_false h];exact Ev.now _
 ·rw [Bool.not_eq_true] at c;rw [c];refine Ev.step (fun k=>by simp only [zo_.j0];exact rfl) ?_;exact Ev.ifT (by trivial) (Ev.now _)
def exA (es:List S161) (j:Nat):S161:=es.getD j z161
theorem rdE (es:List S161) (j:Nat):z2_ es (j:Int)=exA es j:=by simp [z2_,exA]
def EG (e:S161):Prop:=(e.f0=0∧goodValueB e.f3=true)∨(e.f0=1∧xm_ e.f2=true)∨(e.f0=2∧arithB e.f1=true)
structure TInv (es:List S161) (i:Nat) (fs ds:List Int):Prop where
 lf:fs.length=i
 ld:ds.length=i
 at_:∀j,j<i→0≤fs.getD j 0∧fs.getD j 0≤(j:Int)∧0≤ds.getD j 0∧ds.getD j 0≤20∧
   ((exA es j).f0≠2∧fs.getD j 0=(j:Int)∧ds.getD j 0=0∨(exA es j).f0=2∧∃a b:Nat,a<j∧b<j∧(exA es j).f4=(a:Int)∧(exA es j).f5=(b:Int)∧fs.getD j 0=fs.getD a 0∧ds.getD j 0=1+mx (ds.getD a 0) (ds.getD b 0))
 gd:∀j,j<i→EG (exA es j)
theorem first_ev {es:List S161} {i:Nat} {fs ds:List Int} (h:TInv es i fs ds) (hi:i≤es.length):∀j,j<i→Ev (fun k=>y1_.f k es (j:Int)) (fs.getD j 0):=by
 intro j;induction j using Nat.strongRecOn with
 | ind j ih=>
  intro hj;obtain ⟨_,_,_,_,hc⟩:=h.at_ j hj;refine Ev.congr (fun k=>by unfold y1_.f;exact rfl) ?_;refine Ev.step (fun k=>by simp only [y1_.l0,rdE];exact rfl) ?_;refine Ev.ifT (by omega) (Ev.ifT (by omega) ?_);rcases hc with ⟨h1,h2,_⟩|⟨h1,a,b,ha,hb,h4,h5,h6,_⟩
  ·exact Ev.ifF h1 (Ev.as (Ev.now _) h2.symm)
  ·refine Ev.ifT h1 ?_;rw [h4,h6];exact ih a ha (by omega)
theorem mx_ge0 {a b:Int} (ha:0≤a) (hb:0≤b):0≤mx a b:=by unfold mx;split<;>omega
theorem depth_node {es:List S161} (j a b:Nat) (da db:Int) (hj:j<es.length) (h1:(exA es j).f0=2) (h4:(exA es j).f4=(a:Int)) (h5:(exA es j).f5=(b:Int)) (ha0:0≤da) (ha1:da≤20) (hb0:0≤db) (hb1:db≤20)
  (ha:Ev (fun k=>yu_.f k es (a:Int)) da) (hb:Ev (fun k=>yu_.f k es (b:Int)) db):Ev (fun k=>yu_.f k es (j:Int)) (1+mx da db):=by
 refine Ev.step (fun k=>by simp only [yu_.f,rdE];exact rfl) ?_;refine Ev.ifT (by omega) (Ev.ifT (by omega) (Ev.ifT h1 ?_));rw [h4,h5];refine Ev.bind ha (Ev.bind hb ?_);refine Ev.ite (fun c=>?_) (fun c=>?_)
 ·refine Ev.as (Ev.now _) ?_;rw [show wrap64 (db+1)=db+1 by unfold wrap64;omega,mx_lt c];omega
 ·refine Ev.as (Ev.now _) ?_;rw [show wrap64 (da+1)=da+1 by unfold wrap64;omega,mx_ge c];omega
theorem depth_leaf {es:List S161} (j:Nat) (hj:j<es.length) (h1:(exA es j).f0≠2):Ev (fun k=>yu_.f k es (j:Int)) 0:=by
 refine Ev.step (fun k=>by simp only [yu_.f,rdE];exact rfl) ?_;exact Ev.ifT (by omega) (Ev.ifT (by omega) (Ev.ifF h1 (Ev.now _)))
theorem depth_ev {es:List S161} {i:Nat} {fs ds:List Int} (h:TInv es i fs ds) (hi:i≤es.length):∀j,j<i→Ev (fun k=>yu_.f k es (j:Int)) (ds.getD j 0):=by
 intro j;induction j using Nat.strongRecOn with
 | ind j ih=>
  intro hj;obtain ⟨_,_,_,_,hc⟩:=h.at_ j hj;rcases hc with ⟨h1,_,h2⟩|⟨h1,a,b,ha,hb,h4,h5,_,h7⟩
  ·rw [h2];exact depth_leaf j (by omega) h1
  ·rw [h7];have ka:=h.at_ a (by omega);have kb:=h.at_ b (by omega);exact depth_node j a b _ _ (by omega) h1 h4 h5 ka.2.2.1 ka.2.2.2.1 kb.2.2.1 kb.2.2.2.1 (ih a ha (by omega)) (ih b hb (by omega))
theorem getD_snoc_lt {xs:List Int} {y:Int} {j:Nat} (h:j<xs.length):(xs++[y]).getD j 0=xs.getD j 0:=by
 rw [List.getD_eq_getElem?_getD,List.getD_eq_getElem?_getD,List.getElem?_append_left h]
theorem getD_snoc_eq {xs:List Int} {y:Int} {j:Nat} (h:j=xs.length):(xs++[y]).getD j 0=y:=by
 subst h;simp
theorem TInv.snoc {es:List S161} {i:Nat} {fs ds:List Int} (h:TInv es i fs ds) (f d:Int)
  (hf0:0≤f) (hf1:f≤(i:Int)) (hd0:0≤d) (hd1:d≤20)
  (hc:(exA es i).f0≠2∧f=(i:Int)∧d=0∨(exA es i).f0=2∧∃a b:Nat,a<i∧b<i∧(exA es i).f4=(a:Int)∧(exA es i).f5=(b:Int)∧f=fs.getD a 0∧d=1+mx (ds.getD a 0) (ds.getD b 0)) (hg:EG (exA es i)):TInv es (i+1) (fs++[f]) (ds++[d]):=by
 have hl:=h.lf;have hd:=h.ld
 refine ⟨by simp [hl],by simp [hd],fun j hj=>?_,fun j hj=>by
  by_cases e:j=i
  ·rw [e];exact hg
  ·exact h.gd j (by omega)⟩
 by_cases e:j=i
 ·subst e;rw [getD_snoc_eq hl.symm,getD_snoc_eq hd.symm];refine ⟨hf0,hf1,hd0,hd1,?_⟩;rcases hc with hc|⟨h1,a,b,ha,hb,h4,h5,h6,h7⟩
  ·exact Or.inl hc
  ·exact Or.inr ⟨h1,a,b,ha,hb,h4,h5,by rw [getD_snoc_lt (by omega)];exact h6,by rw [getD_snoc_lt (by omega),getD_snoc_lt (by omega)];exact h7⟩
 ·have hj2:j<i:=by omega
  rw [getD_snoc_lt (by omega),getD_snoc_lt (by omega)];obtain ⟨a0,a1,a2,a3,hc⟩:=h.at_ j hj2;refine ⟨a0,a1,a2,a3,?_⟩;rcases hc with hc|⟨h1,a,b,ha,hb,h4,h5,h6,h7⟩
  ·exact Or.inl hc
  ·exact Or.inr ⟨h1,a,b,ha,hb,h4,h5,by rw [getD_snoc_lt (by omega)];exact h6,by rw [getD_snoc_lt (by omega),getD_snoc_lt (by omega)];exact h7⟩
def leafB (x:S161):Bool:=x.f1==0&&(x.f4==0&&x.f5==0)
theorem beq_nil (l:List UInt8):(l==([]:List UInt8))=l.isEmpty:=by cases l<;>rfl
theorem onlyC_eq (x:S161) (h:x.f0=0):onlyC x=(leafB x&&x.f2.toList.isEmpty):=by
 unfold onlyC exEq leafB
 rw [h];have e0:((⟨#[]⟩:ByteArray)).toList=[]:=by rw [ByteArray.toList_eq]
 rw [e0,beq_nil];simp only [BEq.rfl,Bool.true_and];cases x.f1==0<;>cases x.f4==0<;>cases x.f5==0<;>cases x.f2.toList.isEmpty<;>rfl
theorem onlyV_eq (x:S161) (h:x.f0=1):onlyV x=(leafB x&&zeroValB x.f3):=by
 unfold onlyV exEq leafB zeroValB
 rw [h];have e0:((⟨#[]⟩:ByteArray)).toList=[]:=by rw [ByteArray.toList_eq]
 rw [e0,beq_nil];simp only [BEq.rfl,Bool.true_and];cases x.f1==0<;>cases x.f4==0<;>cases x.f5==0<;>cases x.f3.f0==0<;>cases x.f3.f1==0<;>cases x.f3.f2.toList.isEmpty<;>rfl
theorem onlyO_eq (x:S161) (h:x.f0=2):onlyO x=(x.f2.toList.isEmpty&&zeroValB x.f3):=by
 unfold onlyO exEq zeroValB
 rw [h];have e0:((⟨#[]⟩:ByteArray)).toList=[]:=by rw [ByteArray.toList_eq]
 rw [e0,beq_nil,beq_nil];simp only [BEq.rfl,Bool.true_and];cases x.f3.f0==0<;>cases x.f3.f1==0<;>cases x.f3.f2.toList.isEmpty<;>cases x.f2.toList.isEmpty<;>rfl
def memB (s:ByteArray) (L:List ByteArray):Bool:=L.any fun x=>s.toList==x.toList
theorem l2Is_loop (s:ByteArray) (L:List ByteArray) (hl:L.length≤9223372036854775807):∀i,i≤L.length→Ev (fun k=>yl_.l0 k s L (L.length:Int) (i:Int)) (memB s (L.drop i)):=by
 refine up_ind ?_ ?_
 ·rw [List.drop_length];refine Ev.step (fun k=>by simp only [yl_.l0];exact rfl) ?_;exact Ev.ifF (by omega) (Ev.now _)
 ·intro i hi ih;rw [drop_getD ByteArray.empty hi,memB,List.any_cons];have hrd:rdOf ByteArray.empty L (i:Int)=L.getD i ByteArray.empty:=by simp [rdOf]
  refine Ev.step (fun k=>by simp only [yl_.l0,x7_ hi hl,hrd];exact rfl) ?_;refine Ev.ifT (by omega) (Ev.ifT (by omega) (Ev.ifT (by omega) ?_));refine Ev.ite (fun c=>?_) (fun c=>?_)
  ·rw [beq_iff_eq.2 c,Bool.true_or];exact Ev.now _
  ·rw [beq_eq_false_iff_ne.2 c,Bool.false_or];exact ih
theorem l2Is_some (s:ByteArray) (L:List ByteArray) (hl:L.length≤9223372036854775807):Ev (fun k=>yl_.f k s L) (memB s L):=by
 refine Ev.congr (fun k=>by unfold yl_.f;exact rfl) ?_;have:=l2Is_loop s L hl 0 (Nat.zero_le _)
 rw [List.drop_zero] at this;exact this
theorem arith_byte:∀n:Fin 256,decide (0≤Lib.indexByte [43,45,42,47,37] n.val.toUInt8)=([n.val.toUInt8]==[43] || ([n.val.toUInt8]==[45] || ([n.val.toUInt8]==[42] || ([n.val.toUInt8]==[47] || [n.val.toUInt8]==([37]:List UInt8))))):=by
 decide +kernel
theorem ariths_some (c:Int) (h:okByte c):∃L,spec_l2Ariths.f=some L∧Ev (fun k=>yl_.f k (strOfNums [c]) L) (arithB c):=by
 refine ⟨_,rfl,?_⟩;refine Ev.as (l2Is_some _ _ (by simp)) ?_;obtain ⟨n,rfl⟩:=Int.eq_ofNat_of_zero_le h.1;have hn:n<256:=by have:=h.2;omega
 have e:=arith_byte ⟨n,hn⟩;unfold arithB arIdx
 simp only [Int.toNat_natCast] at e ⊢;rw [e]
 have es:(strOfNums [(n:Int)]).toList=[n.toUInt8]:=by
  rw [ByteArray.toList_eq];simp [strOfNums]
 simp only [memB,List.any_cons,List.any_nil,es];simp [ByteArray.toList_eq]
theorem goodExpr_ev {es:List S161} {i:Nat} {fs ds:List Int} (h:TInv es i fs ds) (hi:i<es.length) (h60:es.length≤60) (hb:okByte (exA es i).f1):
  ∃g fs' ds',Ev (fun k=>za_.f k es (i:Int)) g∧w4_.f es fs ds=some (g,fs',ds')∧(g=true→TInv es (i+1) fs' ds'):=by
 have hl:=h.lf;have hd:=h.ld;have hz:=l2Zero_some (exA es i).f3;have hv:=l1GoodVal_some (exA es i).f3;have hs:=l1GoodSym_some (exA es i).f2
 have hgrow:∀r,(fun e:S161=>
   if e.f0=0 then some (onlyC e&&goodValueB e.f3,fs++[(fs.length:Int)],ds++[0])
   else if e.f0=1 then some (onlyV e&&xm_ e.f2,fs++[(fs.length:Int)],ds++[0])
   else if e.f0=2 then
    if onlyO e=true∧arithB e.f1=true∧e.f5=(fs.length:Int)-1∧0≤e.f5∧0≤e.f4 then
     if 0≤rd fs e.f5∧rd fs e.f5≤64 then
      if e.f4=rd fs e.f5-1 then
       if e.f4<(fs.length:Int)∧0≤rd ds e.f4∧rd ds e.f4≤64∧0≤rd ds e.f5∧rd ds e.f5≤64 then
        some (decide (1+mx (rd ds e.f4) (rd ds e.f5)≤20),fs++[rd fs e.f4],ds++[1+mx (rd ds e.f4) (rd ds e.f5)])
       else none
      else some (false,fs++[(fs.length:Int)],ds++[0])
     else none
    else some (false,fs++[(fs.length:Int)],ds++[0])
   else some (false,fs++[(fs.length:Int)],ds++[0])) (exA es i)=some r→w4_.f es fs ds=some r:=by
  intro r hr;unfold w4_.f
  rw [if_pos ⟨h60,by omega,by omega⟩,hl,rdE];rw [hl] at hr;exact hr
 have hj:∀r,Ev (fun k=>za_.j0 k es (i:Int) (leafB (exA es i)) (exA es i).f0 (exA es i).f1 (exA es i).f2 (exA es i).f3.f0 (exA es i).f3.f1 (exA es i).f3.f2 (exA es i).f4 (exA es i).f5) r→Ev (fun k=>za_.f k es (i:Int)) r:=by
  intro r hr;refine Ev.congr (fun k=>by unfold za_.f;rw [rdE]) ?_;refine Ev.ifT (by omega) (Ev.ifT (by omega) ?_);unfold leafB at hr
  refine Ev.ite (fun c=>?_) (fun c=>?_)
  ·rw [beq_iff_eq.2 c,Bool.true_and] at hr;refine Ev.ite (fun c=>?_) (fun c=>?_)
   ·rw [beq_iff_eq.2 c,Bool.true_and] at hr;exact hr
   ·rw [beq_eq_false_iff_ne.2 c,Bool.false_and] at hr;exact hr
  ·rw [beq_eq_false_iff_ne.2 c,Bool.false_and] at hr;exact hr
 by_cases k0:(exA es i).f0=0
 ·refine ⟨_,_,_,hj _ ?_,hgrow _ (if_pos k0),fun gg=>?_⟩
  ·refine Ev.step (fun k=>by simp only [za_.j0];exact rfl) ?_;refine Ev.ifT k0 ?_;rw [onlyC_eq _ k0];cases hL:leafB (exA es i) with
   | false=>exact Ev.ifF (by simp) (Ev.now _)
   | true=>
    refine Ev.ifT (by trivial) ?_;refine Ev.ite (fun c=>?_) (fun c=>?_)
    ·rw [xh_] at c;rw [c];exact Ev.bind hv (Ev.now _)
    ·rw [xh_,Bool.not_eq_true] at c;rw [c];exact Ev.now _
  ·rw [hl];exact h.snoc _ _ (by omega) (by omega) (by omega) (by omega) (Or.inl ⟨by omega,rfl,rfl⟩) (Or.inl ⟨k0,((Bool.and_eq_true _ _).mp gg).2⟩)
 by_cases k1:(exA es i).f0=1
 ·refine ⟨_,_,_,hj _ ?_,hgrow _ ((if_neg k0).trans (if_pos k1)),fun gg=>?_⟩
  ·refine Ev.step (fun k=>by simp only [za_.j0];exact rfl) ?_;refine Ev.ifF k0 (Ev.ifT k1 ?_);rw [onlyV_eq _ k1];cases hL:leafB (exA es i) with
   | false=>exact Ev.ifF (by simp) (Ev.now _)
   | true=>
    refine Ev.ifT (by trivial) (Ev.bind hs ?_);refine Ev.ite (fun c=>?_) (fun c=>?_)
    ·rw [c,Bool.and_true,Bool.true_and];exact Ev.bindE hz (Ev.now _)
    ·rw [Bool.not_eq_true] at c;rw [c,Bool.and_false];exact Ev.now _
  ·rw [hl];exact h.snoc _ _ (by omega) (by omega) (by omega) (by omega) (Or.inl ⟨by omega,rfl,rfl⟩) (Or.inr (Or.inl ⟨k1,((Bool.and_eq_true _ _).mp gg).2⟩))
 by_cases k2:(exA es i).f0=2
 rotate_left
 ·refine ⟨_,_,_,hj _ ?_,hgrow _ ((if_neg k0).trans ((if_neg k1).trans (if_neg k2))),fun e=>by cases e⟩;refine Ev.step (fun k=>by simp only [za_.j0];exact rfl) ?_;exact Ev.ifF k0 (Ev.ifF k1 (Ev.ifF k2 (Ev.now _)))
 obtain ⟨L,hL,hA⟩:=ariths_some _ hb;have honly:=onlyO_eq _ k2;have hgrow2:=fun r hr=>hgrow r ((if_neg k0).trans ((if_neg k1).trans ((if_pos k2).trans hr)))
 clear hgrow
 have hj1:∀b r,(b=true→r=false)→(b=false→Ev (fun k=>(y1_.f k es (exA es i).f5).bind fun t168=>(if (exA es i).f4=(wrap64 (t168-1)) then ((yu_.f k es (i:Int)).bind fun t169=>(some (decide (t169≤20)))) else (some false))) r)→
   Ev (fun k=>za_.j1 k es (i:Int) b (exA es i).f0 (exA es i).f1 (exA es i).f2 (exA es i).f3.f0 (exA es i).f3.f1 (exA es i).f3.f2 (exA es i).f4 (exA es i).f5) r:=by
  intro b r h1 h2;refine Ev.step (fun k=>by simp only [za_.j1];exact rfl) ?_;cases b with
  | true=>exact Ev.ifT (by trivial) (Ev.as (Ev.now _) (h1 rfl).symm)
  | false=>exact Ev.ifF (by simp) (h2 rfl)
 by_cases o1:onlyO (exA es i)=true∧arithB (exA es i).f1=true∧(exA es i).f5=(fs.length:Int)-1∧0≤(exA es i).f5∧0≤(exA es i).f4
 rotate_left
 ·
  refine ⟨_,_,_,hj _ ?_,hgrow2 _ (if_neg o1),fun e=>by cases e⟩;refine Ev.step (fun k=>by simp only [za_.j0];exact rfl) ?_;refine Ev.ifF k0 (Ev.ifF k1 (Ev.ifT k2 ?_));refine Ev.bindE hL (Ev.bind hA ?_);have bad:Ev (fun k=>za_.j1 k es (i:Int) true (exA es i).f0 (exA es i).f1 (exA es i).f2 (exA es i).f3.f0 (exA es i).f3.f1 (exA es i).f3.f2 (exA es i).f4 (exA es i).f5) false:=hj1 _ _ (fun _=>rfl) (fun e=>by cases e)
  refine Ev.ite (fun c1=>?_) (fun _=>bad);refine Ev.ite (fun c2=>?_) (fun _=>bad);refine Ev.bindE hz ?_;refine Ev.ite (fun c3=>?_) (fun _=>bad);have hw:wrap64 ((i:Int)-1)=(fs.length:Int)-1:=by unfold wrap64;omega
  rw [hw];refine Ev.ite (fun c4=>?_) (fun _=>bad);refine Ev.ite (fun c5=>bad) (fun c5=>?_);refine hj1 _ _ (fun _=>rfl) (fun e=>?_);rw [xh_] at c2;exact absurd ⟨by rw [honly,c2,c3];rfl,c1,c4,by omega,by simpa using e⟩ o1
 have o2:=o1;obtain ⟨p1,p2,p3,p4,p5⟩:=o2;rw [honly,Bool.and_eq_true] at p1;obtain ⟨b,hb5⟩:=Int.eq_ofNat_of_zero_le p4;have hbi:b<i:=by omega
 have hbb:=h.at_ b hbi;have hrb:rd fs (exA es i).f5=fs.getD b 0:=by rw [hb5];simp [rd]
 have hg1:0≤rd fs (exA es i).f5∧rd fs (exA es i).f5≤64:=by rw [hrb];omega
 have hF:=first_ev h (by omega) b hbi
 have hspec:∀r,Ev (fun k=>(if (exA es i).f4=(fs.getD b 0-1) then ((yu_.f k es (i:Int)).bind fun t169=>(some (decide (t169≤20)))) else (some false))) r→Ev (fun k=>za_.f k es (i:Int)) r:=by
  intro r hr;refine hj _ ?_;refine Ev.step (fun k=>by simp only [za_.j0];exact rfl) ?_;refine Ev.ifF k0 (Ev.ifF k1 (Ev.ifT k2 ?_));refine Ev.bindE hL (Ev.bind hA ?_);refine Ev.ifT p2 (Ev.ifT ((xh_ _).2 p1.1) (Ev.bindE hz (Ev.ifT p1.2 ?_)));have hw:wrap64 ((i:Int)-1)=(fs.length:Int)-1:=by unfold wrap64;omega
  rw [hw];refine Ev.ifT p3 (Ev.ifF (by omega) ?_);refine hj1 _ _ (fun e=>absurd (of_decide_eq_true e) (by omega)) (fun _=>?_);rw [hb5];refine Ev.bind hF ?_;rw [show wrap64 (fs.getD b 0-1)=fs.getD b 0-1 by unfold wrap64;omega];exact hr
 by_cases a3:(exA es i).f4=rd fs (exA es i).f5-1
 rotate_left
 ·refine ⟨_,_,_,hspec _ ?_,hgrow2 _ ((if_pos o1).trans ((if_pos hg1).trans (if_neg a3))),fun e=>by cases e⟩;rw [hrb] at a3;exact Ev.ifF a3 (Ev.now _)
 obtain ⟨a,ha4⟩:=Int.eq_ofNat_of_zero_le p5;have hai:a<i:=by rw [hrb] at a3;omega
 have haa:=h.at_ a hai;have hra:rd fs (exA es i).f4=fs.getD a 0:=by rw [ha4];simp [rd]
 have hda:rd ds (exA es i).f4=ds.getD a 0:=by rw [ha4];simp [rd]
 have hdb:rd ds (exA es i).f5=ds.getD b 0:=by rw [hb5];simp [rd]
 have hg2:(exA es i).f4<(fs.length:Int)∧0≤rd ds (exA es i).f4∧rd ds (exA es i).f4≤64∧0≤rd ds (exA es i).f5∧rd ds (exA es i).f5≤64:=by
  rw [hda,hdb];omega
 refine ⟨_,_,_,hspec _ ?_,hgrow2 _ ((if_pos o1).trans ((if_pos hg1).trans ((if_pos a3).trans (if_pos hg2)))),fun e=>?_⟩
 ·rw [hrb] at a3;refine Ev.ifT a3 ?_;refine Ev.bind (depth_node i a b _ _ hi k2 ha4 hb5 haa.2.2.1 haa.2.2.2.1 hbb.2.2.1 hbb.2.2.2.1 (depth_ev h (by omega) a hai) (depth_ev h (by omega) b hbi)) ?_;rw [hda,hdb];exact Ev.now _
 ·have e2:=of_decide_eq_true e;rw [hda,hdb] at e2;rw [hra,hda,hdb];have h0:=mx_ge0 haa.2.2.1 hbb.2.2.1;exact h.snoc _ _ haa.1 (by omega) (by omega) e2 (Or.inr ⟨k2,a,b,hai,hbi,ha4,hb5,rfl,rfl⟩) (Or.inr (Or.inr ⟨k2,p2⟩))
theorem shapeE {es:List S161} (h60:es.length≤60) (hb:∀e,e∈es→okByte e.f1):∀m i,m+i=es.length→∀fs ds,TInv es i fs ds→
  ∃v fs' ds',Ev (fun k=>zc_.e k es m i) v∧sf_e es m fs ds=some (v,fs',ds')∧(v=-1∧TInv es es.length fs' ds'∨0≤v):=by
 intro m;induction m with
 | zero=>
  intro i hm fs ds h;refine ⟨-1,fs,ds,Ev.now _,rfl,Or.inl ⟨rfl,?_⟩⟩;rw [show es.length=i by omega];exact h
 | succ m ih=>
  intro i hm fs ds h;have hi:i<es.length:=by omega
  obtain ⟨g,fs1,ds1,h1,h2,h3⟩:=goodExpr_ev h hi h60 (hb _ (by unfold exA;exact getD_in _ hi));cases g with
  | true=>
   obtain ⟨v,fs2,ds2,h4,h5,h6⟩:=ih (i+1) (by omega) fs1 ds1 (h3 rfl);refine ⟨v,fs2,ds2,?_,?_,h6⟩
   ·refine Ev.congr (fun k=>by unfold zc_.e;exact rfl) ?_;exact Ev.bind h1 (Ev.ifT (by trivial) h4)
   ·unfold sf_e
    rw [h2];simp only [Option.bind_some];rw [if_pos (by trivial)];exact h5
  | false=>
   refine ⟨(i:Int)+1,fs1,ds1,?_,?_,Or.inr (by omega)⟩
   ·refine Ev.congr (fun k=>by unfold zc_.e;exact rfl) ?_;exact Ev.bind h1 (Ev.ifF (by simp) (Ev.now _))
   ·unfold sf_e
    rw [h2];simp only [Option.bind_some];rw [if_neg (by simp),h.lf]
inductive Chain (fs:List Int):List Int→Int→Int→Prop
 | nil (n:Int):Chain fs [] n n
 | cons (x:Nat) (xs:List Int) (n n':Int) (hx:x<fs.length) (hf:fs.getD x 0=n) (h:Chain fs xs ((x:Int)+1) n'):Chain fs ((x:Int)::xs) n n'
theorem actG {es:List S161} {fs ds:List Int} (h:TInv es es.length fs ds) (h60:es.length≤60):∀(xs:List Int) (n:Int),∃g n',Ev (fun k=>zn_.g k es xs n) (g,n')∧y0_.g fs xs n=some (g,n')∧(g=true→Chain fs xs n n'):=by
 intro xs;induction xs with
 | nil=>intro n;exact ⟨true,n,Ev.now _,rfl,fun _=>Chain.nil n⟩
 | cons x xs ih=>
  intro n;have hl:=h.lf;by_cases c:0≤x∧x<(es.length:Int)
  ·obtain ⟨a,rfl⟩:=Int.eq_ofNat_of_zero_le c.1;have ha:a<es.length:=by omega
   have hF:=first_ev h (Nat.le_refl _) a ha;have hr:rd fs (a:Int)=fs.getD a 0:=by simp [rd]
   by_cases e:fs.getD a 0=n
   ·obtain ⟨g,n',h1,h2,h3⟩:=ih ((a:Int)+1);refine ⟨g,n',?_,?_,fun hg=>Chain.cons a xs n n' (by omega) e (h3 hg)⟩
    ·refine Ev.congr (fun k=>by unfold zn_.g;exact rfl) ?_;refine Ev.ifT c (Ev.bind hF (Ev.ifT e ?_));rw [show wrap64 ((a:Int)+1)=(a:Int)+1 by unfold wrap64;omega];exact h1
    ·unfold y0_.g
     rw [if_pos ⟨c.1,by omega⟩,hr,if_pos e];exact h2
   ·refine ⟨false,n,?_,?_,fun e=>by cases e⟩
    ·refine Ev.congr (fun k=>by unfold zn_.g;exact rfl) ?_;exact Ev.ifT c (Ev.bind hF (Ev.ifF e (Ev.now _)))
    ·unfold y0_.g
     rw [if_pos ⟨c.1,by omega⟩,hr,if_neg e]
  ·refine ⟨false,n,?_,?_,fun e=>by cases e⟩
   ·refine Ev.congr (fun k=>by unfold zn_.g;exact rfl) ?_;exact Ev.ifF c (Ev.now _)
   ·unfold y0_.g
    rw [if_neg (by rw [hl];exact c)]
theorem chain_nil {fs:List Int} {n n':Int} (h:Chain fs [] n n'):n'=n:=by cases h;rfl
def ActOK (a:S98):Prop:=a.f3.length≤6∧(a.f0=1∧goodClsB a.f2=true∧a.f1=0∨a.f2.toList=[]∧(a.f0=2∧a.f3=[]∨a.f0=3∨a.f0=4∧a.f1=0∧a.f3=[])∧-1000000≤a.f1∧a.f1≤1000000)
theorem actF {es:List S161} {fs ds:List Int} (h:TInv es es.length fs ds) (h60:es.length≤60) (a:S98) (n:Int):∃g n',Ev (fun k=>zn_.f k es a.f0 a.f1 a.f2 a.f3 n) (g,n')∧y0_.f fs a.f0 a.f1 a.f2 a.f3 n=some (g,n')∧(g=true→ActOK a∧Chain fs a.f3 n n'):=by
 obtain ⟨kd,K,cls,xs⟩:=a;dsimp only
 obtain ⟨g,n',h1,h2,h3⟩:=actG h h60 xs n;by_cases k1:kd=1
 ·subst k1;by_cases c6:6<xs.length
  ·refine ⟨false,n,?_,?_,fun e=>by cases e⟩
   ·refine Ev.congr (fun k=>by unfold zn_.f;exact rfl) ?_;exact Ev.ifT rfl (Ev.ifT c6 (Ev.now _))
   ·unfold y0_.f
    rw [if_pos rfl,if_pos c6];repeat' split
    all_goals rfl
  cases hc:goodClsB cls with
  | false=>
   refine ⟨false,n,?_,?_,fun e=>by cases e⟩
   ·refine Ev.congr (fun k=>by unfold zn_.f;exact rfl) ?_;refine Ev.ifT rfl (Ev.ifF c6 (Ev.bind (l2GoodCls_some cls) ?_));rw [hc];exact Ev.ifF (by simp) (Ev.now _)
   ·unfold y0_.f
    rw [if_pos rfl,hc,if_neg (by simp)]
  | true=>
   by_cases c0:K=0
   ·refine ⟨g,n',?_,?_,fun hg=>⟨⟨by dsimp only;omega,Or.inl ⟨rfl,hc,c0⟩⟩,h3 hg⟩⟩
    ·refine Ev.congr (fun k=>by unfold zn_.f;exact rfl) ?_;refine Ev.ifT rfl (Ev.ifF c6 (Ev.bind (l2GoodCls_some cls) ?_));rw [hc];exact Ev.ifT (by trivial) (Ev.ifT c0 h1)
    ·unfold y0_.f
     rw [if_pos rfl,hc,if_pos (by trivial),if_pos c0,if_neg c6];exact h2
   ·refine ⟨false,n,?_,?_,fun e=>by cases e⟩
    ·refine Ev.congr (fun k=>by unfold zn_.f;exact rfl) ?_;refine Ev.ifT rfl (Ev.ifF c6 (Ev.bind (l2GoodCls_some cls) ?_));rw [hc];exact Ev.ifT (by trivial) (Ev.ifF c0 (Ev.now _))
    ·unfold y0_.f
     rw [if_pos rfl,hc,if_pos (by trivial),if_neg c0]
 by_cases k2:kd=2
 ·subst k2
  have sp:∀r,Ev (fun _=>if xs=[] then (if cls.toList=[] then (if K < -1000000 then some (false,n) else if 1000000<K then some (false,n) else some (true,n)) else some (false,n)) else some (false,n)) r→Ev (fun k=>zn_.f k es 2 K cls xs n) r:=by
   intro r hr;refine Ev.congr (fun k=>by unfold zn_.f;exact rfl) ?_;exact Ev.ifF (by decide) (Ev.ifT rfl hr)
  unfold y0_.f
  rw [if_neg (by decide),if_pos rfl];by_cases c1:xs=[]
  ·by_cases c2:cls.toList=[]
   ·by_cases c3:K < -1000000
    ·exact ⟨false,n,sp _ (Ev.ifT c1 (Ev.ifT c2 (Ev.ifT c3 (Ev.now _)))),by rw [if_pos c2,if_pos c3],fun e=>by cases e⟩
    by_cases c4:1000000<K
    ·exact ⟨false,n,sp _ (Ev.ifT c1 (Ev.ifT c2 (Ev.ifF c3 (Ev.ifT c4 (Ev.now _))))),by rw [if_pos c2,if_neg c3,if_pos c4],fun e=>by cases e⟩
    ·refine ⟨true,n,sp _ (Ev.ifT c1 (Ev.ifT c2 (Ev.ifF c3 (Ev.ifF c4 (Ev.now _))))),by rw [if_pos c2,if_neg c3,if_neg c4,if_pos c1],fun _=>⟨⟨by rw [c1];simp,Or.inr ⟨c2,Or.inl ⟨rfl,c1⟩,by dsimp only;omega,by dsimp only;omega⟩⟩,?_⟩⟩;rw [c1];exact Chain.nil n
   ·exact ⟨false,n,sp _ (Ev.ifT c1 (Ev.ifF c2 (Ev.now _))),by rw [if_neg c2],fun e=>by cases e⟩
  ·refine ⟨false,n,sp _ (Ev.ifF c1 (Ev.now _)),?_,fun e=>by cases e⟩;rw [if_neg c1];repeat' split
   all_goals rfl
 by_cases k3:kd=3
 ·subst k3
  have sp:∀r,Ev (fun k=>if 6<xs.length then some (false,n) else if cls.toList=[] then (if K < -1000000 then some (false,n) else if 1000000<K then some (false,n) else zn_.g k es xs n) else some (false,n)) r→Ev (fun k=>zn_.f k es 3 K cls xs n) r:=by
   intro r hr;refine Ev.congr (fun k=>by unfold zn_.f;exact rfl) ?_;exact Ev.ifF (by decide) (Ev.ifF (by decide) (Ev.ifT rfl hr))
  unfold y0_.f
  rw [if_neg (by decide),if_neg (by decide),if_pos rfl];by_cases c6:6<xs.length
  ·refine ⟨false,n,sp _ (Ev.ifT c6 (Ev.now _)),?_,fun e=>by cases e⟩;rw [if_pos c6];repeat' split
   all_goals rfl
  by_cases c2:cls.toList=[]
  ·by_cases c3:K < -1000000
   ·exact ⟨false,n,sp _ (Ev.ifF c6 (Ev.ifT c2 (Ev.ifT c3 (Ev.now _)))),by rw [if_pos c2,if_pos c3],fun e=>by cases e⟩
   by_cases c4:1000000<K
   ·exact ⟨false,n,sp _ (Ev.ifF c6 (Ev.ifT c2 (Ev.ifF c3 (Ev.ifT c4 (Ev.now _))))),by rw [if_pos c2,if_neg c3,if_pos c4],fun e=>by cases e⟩
   ·refine ⟨g,n',sp _ (Ev.ifF c6 (Ev.ifT c2 (Ev.ifF c3 (Ev.ifF c4 h1)))),?_,fun hg=>⟨⟨by dsimp only;omega,Or.inr ⟨c2,Or.inr (Or.inl rfl),by dsimp only;omega,by dsimp only;omega⟩⟩,h3 hg⟩⟩;rw [if_pos c2,if_neg c3,if_neg c4,if_neg c6];exact h2
  ·exact ⟨false,n,sp _ (Ev.ifF c6 (Ev.ifF c2 (Ev.now _))),by rw [if_neg c2],fun e=>by cases e⟩
 by_cases k4:kd=4
 ·subst k4
  have sp:∀r,Ev (fun _=>if xs=[] then (if cls.toList=[] then (if K=0 then some (true,n) else some (false,n)) else some (false,n)) else some (false,n)) r→Ev (fun k=>zn_.f k es 4 K cls xs n) r:=by
   intro r hr;refine Ev.congr (fun k=>by unfold zn_.f;exact rfl) ?_;exact Ev.ifF (by decide) (Ev.ifF (by decide) (Ev.ifF (by decide) (Ev.ifT rfl hr)))
  unfold y0_.f
  rw [if_neg (by decide),if_neg (by decide),if_neg (by decide),if_pos rfl];by_cases c1:xs=[]
  ·by_cases c2:cls.toList=[]
   ·by_cases c3:K=0
    ·refine ⟨true,n,sp _ (Ev.ifT c1 (Ev.ifT c2 (Ev.ifT c3 (Ev.now _)))),by rw [if_pos c2,if_pos c3,if_pos c1],fun _=>⟨⟨by rw [c1];simp,Or.inr ⟨c2,Or.inr (Or.inr ⟨rfl,c3,c1⟩),by dsimp only;omega,by dsimp only;omega⟩⟩,?_⟩⟩;rw [c1];exact Chain.nil n
    ·exact ⟨false,n,sp _ (Ev.ifT c1 (Ev.ifT c2 (Ev.ifF c3 (Ev.now _)))),by rw [if_pos c2,if_neg c3],fun e=>by cases e⟩
   ·exact ⟨false,n,sp _ (Ev.ifT c1 (Ev.ifF c2 (Ev.now _))),by rw [if_neg c2],fun e=>by cases e⟩
  ·refine ⟨false,n,sp _ (Ev.ifF c1 (Ev.now _)),?_,fun e=>by cases e⟩;rw [if_neg c1];repeat' split
   all_goals rfl
 ·refine ⟨false,n,?_,?_,fun e=>by cases e⟩
  ·refine Ev.congr (fun k=>by unfold zn_.f;exact rfl) ?_;exact Ev.ifF k1 (Ev.ifF k2 (Ev.ifF k3 (Ev.ifF k4 (Ev.now _))))
  ·unfold y0_.f
   rw [if_neg k1,if_neg k2,if_neg k3,if_neg k4]
inductive Chains (fs:List Int):List S98→Int→Int→Prop
 | nil (n:Int):Chains fs [] n n
 | cons (a:S98) (as_:List S98) (n m n':Int) (ha:ActOK a) (h1:Chain fs a.f3 n m) (h2:Chains fs as_ m n'):Chains fs (a::as_) n n'
theorem shapeA {es:List S161} {fs ds:List Int} (h:TInv es es.length fs ds) (h60:es.length≤60):∀(as_:List S98) (i:Nat) (n:Int),∃v n',Ev (fun k=>zc_.a k es as_ i n) (v,n')∧sf_a fs as_ i n=some (v,n')∧(v=-1∧Chains fs as_ n n'∨0≤v):=by
 intro as_;induction as_ with
 | nil=>intro i n;exact ⟨-1,n,Ev.now _,rfl,Or.inl ⟨rfl,Chains.nil n⟩⟩
 | cons a as_ ih=>
  intro i n;obtain ⟨g,m,h1,h2,h3⟩:=actF h h60 a n;cases g with
  | true=>
   obtain ⟨v,n',h4,h5,h6⟩:=ih (i+1) m;refine ⟨v,n',?_,?_,h6.imp (fun q=>⟨q.1,Chains.cons a as_ n m n' (h3 rfl).1 (h3 rfl).2 q.2⟩) id⟩
   ·refine Ev.congr (fun k=>by unfold zc_.a;exact rfl) ?_;exact Ev.bind h1 (Ev.ifT (by trivial) h4)
   ·unfold sf_a
    rw [h2];simp only [Option.bind_some];rw [if_pos (by trivial)];exact h5
  | false=>
   refine ⟨(i:Int)+1,m,?_,?_,Or.inr (by omega)⟩
   ·refine Ev.congr (fun k=>by unfold zc_.a;exact rfl) ?_;exact Ev.bind h1 (Ev.ifF (by simp) (Ev.now _))
   ·unfold sf_a
    rw [h2];simp only [Option.bind_some];rw [if_neg (by simp)]
theorem shapeP:∀(ps:List S42) (i:Nat),Ev (fun k=>zc_.p k ps i) (sf_p ps i)∧(sf_p ps i=-1∧(∀p,p∈ps→wo_ p.f1 p.f2=true)∨0≤sf_p ps i):=by
 intro ps;induction ps with
 | nil=>intro i;exact ⟨Ev.now _,Or.inl ⟨rfl,fun p hp=>by cases hp⟩⟩
 | cons p ps ih=>
  intro i;obtain ⟨h1,h2⟩:=ih (i+1);unfold sf_p
  cases hg:wo_ p.f1 p.f2 with
  | true=>
   rw [if_pos (by trivial)];refine ⟨?_,h2.imp (fun q=>⟨q.1,fun r hr=>?_⟩) id⟩
   ·refine Ev.congr (fun k=>by unfold zc_.p;exact rfl) ?_;refine Ev.bind (l2GoodPat_some _ _ _) ?_;rw [hg];exact Ev.ifT (by trivial) h1
   ·rcases List.mem_cons.1 hr with e|e
    ·rw [e];exact hg
    ·exact q.2 r e
  | false=>
   rw [if_neg (by simp)];refine ⟨?_,Or.inr (by omega)⟩;refine Ev.congr (fun k=>by unfold zc_.p;exact rfl) ?_;refine Ev.bind (l2GoodPat_some _ _ _) ?_;rw [hg];exact Ev.ifF (by simp) (Ev.now _)
def ShapeOK (nm:ByteArray) (ps:List S42) (es:List S161) (as_:List S98):Prop:=
 xm_ nm=true∧ps.length≤6∧as_.length≤8∧es.length≤60∧(∀p,p∈ps→wo_ p.f1 p.f2=true)∧∃fs ds,TInv es es.length fs ds∧Chains fs as_ 0 (es.length:Int)
theorem shape_both (nm:ByteArray) (sa:Int) (ps:List S42) (es:List S161) (as_:List S98) (hb:∀e,e∈es→okByte e.f1):
  ∃v,Ev (fun k=>zc_.f k nm sa ps es as_) v∧xq_.f nm sa ps es as_=some v∧(v=-1∧ShapeOK nm ps es as_∨0≤v):=by
 have start:∀r,Ev (fun k=>if xm_ nm=true then (if 6<ps.length then some 0 else if 8<as_.length then some 0 else if 60<es.length then some 0 else
  (zc_.p k ps 0).bind fun p=>if p=-1 then (zc_.e k es es.length 0).bind fun e=>if e=-1 then (zc_.a k es as_ 0 0).bind fun a=>if a.1=-1 then (if a.2=(es.length:Int) then some (-1) else some ((as_.length:Int)+1)) else some a.1 else some e else some p) else some 0) r→Ev (fun k=>zc_.f k nm sa ps es as_) r:=by
  intro r hr;refine Ev.congr (fun k=>by unfold zc_.f;exact rfl) ?_;exact Ev.bind (l1GoodSym_some nm) hr
 unfold xq_.f
 cases hs:xm_ nm with
 | false=>
  refine ⟨0,start _ ?_,by rw [if_neg (by simp)],Or.inr (by omega)⟩;rw [hs];exact Ev.ifF (by simp) (Ev.now _)
 | true=>
 rw [hs] at start;rw [if_pos (by trivial)];by_cases c1:6<ps.length
 ·exact ⟨0,start _ (Ev.ifT (by trivial) (Ev.ifT c1 (Ev.now _))),by rw [if_pos c1],Or.inr (by omega)⟩
 by_cases c2:8<as_.length
 ·exact ⟨0,start _ (Ev.ifT (by trivial) (Ev.ifF c1 (Ev.ifT c2 (Ev.now _)))),by rw [if_neg c1,if_pos c2],Or.inr (by omega)⟩
 by_cases c3:60<es.length
 ·exact ⟨0,start _ (Ev.ifT (by trivial) (Ev.ifF c1 (Ev.ifF c2 (Ev.ifT c3 (Ev.now _))))),by rw [if_neg c1,if_neg c2,if_pos c3],Or.inr (by omega)⟩
 rw [if_neg c1,if_neg c2,if_neg c3];replace start:=fun r hr=>start r (Ev.ifT (by trivial) (Ev.ifF c1 (Ev.ifF c2 (Ev.ifF c3 hr))))
 obtain ⟨hp1,hp2⟩:=shapeP ps 0;rcases hp2 with ⟨hp2,hp3⟩|hp2
 rotate_left
 ·refine ⟨sf_p ps 0,start _ ?_,by rw [if_neg (by omega)],Or.inr hp2⟩;exact Ev.bind hp1 (Ev.ifF (by omega) (Ev.now _))
 rw [if_pos hp2];obtain ⟨e,fs,ds,he1,he2,he3⟩:=shapeE (by omega) hb es.length 0 (by omega) [] [] ⟨rfl,rfl,fun j hj=>absurd hj (Nat.not_lt_zero _),fun j hj=>absurd hj (Nat.not_lt_zero _)⟩;rw [he2];simp only [Option.bind_some];rcases he3 with ⟨he3,hT⟩|he3
 rotate_left
 ·refine ⟨e,start _ ?_,by rw [if_neg (by omega)],Or.inr he3⟩;exact Ev.bind hp1 (Ev.ifT hp2 (Ev.bind he1 (Ev.ifF (by omega) (Ev.now _))))
 rw [if_pos he3];obtain ⟨a,n,ha1,ha2,ha3⟩:=shapeA hT (by omega) as_ 0 0;rw [ha2];simp only [Option.bind_some];rcases ha3 with ⟨ha3,hC⟩|ha3
 rotate_left
 ·refine ⟨a,start _ ?_,by rw [if_neg (by omega)],Or.inr ha3⟩;exact Ev.bind hp1 (Ev.ifT hp2 (Ev.bind he1 (Ev.ifT he3 (Ev.bind ha1 (Ev.ifF (by dsimp only;omega) (Ev.now _))))))
 rw [if_pos ha3];by_cases hn:n=(es.length:Int)
 ·refine ⟨-1,start _ ?_,by rw [if_pos hn],Or.inl ⟨rfl,hs,by omega,by omega,by omega,hp3,fs,ds,hT,by rw [←hn];exact hC⟩⟩;exact Ev.bind hp1 (Ev.ifT hp2 (Ev.bind he1 (Ev.ifT he3 (Ev.bind ha1 (Ev.ifT (by exact ha3) (Ev.ifT (by exact hn) (Ev.now _)))))))
 ·refine ⟨(as_.length:Int)+1,start _ ?_,by rw [if_neg hn],Or.inr (by omega)⟩;exact Ev.bind hp1 (Ev.ifT hp2 (Ev.bind he1 (Ev.ifT he3 (Ev.bind ha1 (Ev.ifT (by exact ha3) (Ev.ifF (by exact hn) (Ev.now _)))))))
theorem memB_eq (s:ByteArray) (L:List ByteArray):memB s L=memS s L:=by
 induction L with
 | nil=>rfl
 | cons u r ih=>
  have e:(s.toList==u.toList)=(u.toList==s.toList):=by
   rw [Bool.eq_iff_iff,beq_iff_eq,beq_iff_eq];exact eq_comm
  show ((s.toList==u.toList) || memB s r)=((u.toList==s.toList) || memS s r);rw [e,ih]
theorem memS_app (s:ByteArray):∀a b:List ByteArray,memS s (a++b)=(memS s a || memS s b)
 | [],b=>by simp [memS]
 | x::a,b=>by simp [memS,memS_app s a b,Bool.or_assoc]
theorem memS_snoc (s x:ByteArray) (a:List ByteArray):memS s (a++[x])=(memS s a || (x.toList==s.toList)):=by
 rw [memS_app];simp [memS]
theorem wrap2 (p m:Nat) (hp:p≤6) (hm:m<8):wrap64 (wrap64 ((p:Int)+(m:Int))+1)=(p:Int)+(m:Int)+1:=by
 have e1:wrap64 ((p:Int)+(m:Int))=(p:Int)+(m:Int):=by unfold wrap64;omega
 rw [e1];unfold wrap64;omega
section
variable (nm:ByteArray) (sa:Int) (ps:List S42) (es:List S161) (as_:List S98)
theorem scopeT (i:Nat) (hi:i<6) (kn:List ByteArray) (ts:List S86) (ts2:List S86) (neg:Bool) (cls:ByteArray) (K:List ByteArray) (hts:ts.length≤6) (hsz:∀t,t∈ts→t.f2.size≤maxLen):
  ∀j,j≤ts.length→∀(H L:List ByteArray),(∀s,memS s H=(memS s K || memS s L))→H.length+(ts.length-j)≤1000→
  ∃y H',sc_t K (ts.drop j) L=some y∧(∀s,memS s H'=(memS s K || memS s y.2))∧H'.length≤H.length+(ts.length-j)∧
   ∀r,(y.1=false→r=(i:Int)+1)→(y.1=true→Ev (fun k=>if neg=true then z4_.l0 k kn ps (ps.length:Int) ((i+1:Nat):Int) nm sa ps es as_ else z4_.l0 k H' ps (ps.length:Int) ((i+1:Nat):Int) nm sa ps es as_) r)→
    Ev (fun k=>z4_.l1 k kn (i:Int) H ps (ps.length:Int) (i:Int) ts (ts.length:Int) (j:Int) nm sa ps es as_ neg cls ts2) r:=by
 refine up_ind ?_ ?_
 ·intro H L hm _;refine ⟨(true,L),H,?_,hm,by omega,?_⟩
  ·rw [List.drop_length];rfl
  ·intro r _ h2;refine Ev.step (fun k=>by simp only [z4_.l1,x7_ (show i<6 from hi) (show 6≤9223372036854775807 by omega)];exact rfl) ?_;exact Ev.ifF (by omega) (h2 rfl)
 ·intro j hj ih H L hm hb;have hrd:z6_ ts (j:Int)=ts.getD j z86:=by simp [z6_]
  rw [drop_getD z86 hj];have hs:=hsz _ (getD_in z86 hj);generalize ts.getD j z86=t at *;have go:∀(b:Bool) (H1 L1:List ByteArray) (y:Bool×List ByteArray) (H':List ByteArray) (rest:Nat→Option Int) (r:Int),True:=fun _ _ _ _ _ _ _=>trivial
  clear go;unfold sc_t
  rw [if_pos hs]
  have stepJ:∀(x45:Bool) (r:Int),(x45=true→r=(i:Int)+1)→(x45=false→Ev (fun k=>if t.f0=2 then (if H.length<8796093022208 then z4_.l1 k kn (i:Int) (H++[t.f2]) ps (ps.length:Int) (i:Int) ts (ts.length:Int) ((j+1:Nat):Int) nm sa ps es as_ neg cls ts2 else none) else z4_.l1 k kn (i:Int) H ps (ps.length:Int) (i:Int) ts (ts.length:Int) ((j+1:Nat):Int) nm sa ps es as_ neg cls ts2) r)→
    Ev (fun k=>z4_.j2 k kn (i:Int) H ps (ps.length:Int) (i:Int) ts (ts.length:Int) (j:Int) x45 nm sa ps es as_ neg cls ts2 t.f0 t.f1 t.f2 t.f3.f0 t.f3.f1 t.f3.f2) r:=by
   intro x45 r h1 h2;refine Ev.step (fun k=>by simp only [z4_.j2,x7_ hj (show ts.length≤9223372036854775807 by omega)];exact rfl) ?_;cases x45 with
   | true=>
    refine Ev.ifT (by trivial) (Ev.as (Ev.now _) ?_);rw [h1 rfl];unfold wrap64;omega
   | false=>exact Ev.ifF (by simp) (h2 rfl)
  have stepL:∀r,Ev (fun k=>if t.f0=3 then (if t.f2.toList=([]:List UInt8) then (z4_.j2 k kn (i:Int) H ps (ps.length:Int) (i:Int) ts (ts.length:Int) (j:Int) false nm sa ps es as_ neg cls ts2 t.f0 t.f1 t.f2 t.f3.f0 t.f3.f1 t.f3.f2) else (yl_.f k t.f2 H).bind fun q=>z4_.j2 k kn (i:Int) H ps (ps.length:Int) (i:Int) ts (ts.length:Int) (j:Int) (!q) nm sa ps es as_ neg cls ts2 t.f0 t.f1 t.f2 t.f3.f0 t.f3.f1 t.f3.f2) else z4_.j2 k kn (i:Int) H ps (ps.length:Int) (i:Int) ts (ts.length:Int) (j:Int) false nm sa ps es as_ neg cls ts2 t.f0 t.f1 t.f2 t.f3.f0 t.f3.f1 t.f3.f2) r→
    Ev (fun k=>z4_.l1 k kn (i:Int) H ps (ps.length:Int) (i:Int) ts (ts.length:Int) (j:Int) nm sa ps es as_ neg cls ts2) r:=by
   intro r hr;refine Ev.step (fun k=>by simp only [z4_.l1,hrd];exact rfl) ?_;exact Ev.ifT (by omega) (Ev.ifT (by omega) (Ev.ifT (by omega) hr))
  by_cases k2:t.f0=2
  ·rw [if_neg (by omega),if_pos k2]
   have hm2:∀s,memS s (H++[t.f2])=(memS s K || memS s (t.f2::L)):=by
    intro s;rw [memS_snoc,hm s];simp only [memS];cases memS s K<;>cases memS s L<;>cases (t.f2.toList==s.toList)<;>rfl
   obtain ⟨y,H',h1,h2,h3,h4⟩:=ih (H++[t.f2]) (t.f2::L) hm2 (by simp;omega);refine ⟨y,H',h1,h2,by simp at h3;omega,fun r r1 r2=>stepL r (Ev.ifF (by omega) (stepJ _ _ (fun e=>by cases e) (fun _=>Ev.ifT k2 (Ev.ifT (by omega) (h4 r r1 r2)))))⟩
  ·obtain ⟨y,H',h1,h2,h3,h4⟩:=ih H L hm (by omega)
   have cont:∀r,(y.1=false→r=(i:Int)+1)→(y.1=true→Ev (fun k=>if neg=true then z4_.l0 k kn ps (ps.length:Int) ((i+1:Nat):Int) nm sa ps es as_ else z4_.l0 k H' ps (ps.length:Int) ((i+1:Nat):Int) nm sa ps es as_) r)→Ev (fun k=>z4_.j2 k kn (i:Int) H ps (ps.length:Int) (i:Int) ts (ts.length:Int) (j:Int) false nm sa ps es as_ neg cls ts2 t.f0 t.f1 t.f2 t.f3.f0 t.f3.f1 t.f3.f2) r:=
    fun r r1 r2=>stepJ _ _ (fun e=>by cases e) (fun _=>Ev.ifF k2 (h4 r r1 r2))
   by_cases k3:t.f0=3
   ·cases hemp:t.f2.toList.isEmpty with
    | true=>
     rw [if_neg (fun q=>by have:=q.2.1;cases this),if_neg k2];exact ⟨y,H',h1,h2,by omega,fun r r1 r2=>stepL r (Ev.ifT k3 (Ev.ifT ((xh_ _).2 hemp) (cont r r1 r2)))⟩
    | false=>
     have hne:¬t.f2.toList=([]:List UInt8):=by rw [xh_,hemp];simp
     have his:=l2Is_some t.f2 H (by omega);rw [memB_eq,hm t.f2] at his;cases hk:memS t.f2 K with
     | true=>
      rw [hk,Bool.true_or] at his;rw [if_neg (fun q=>by have:=q.2.2.1;cases this),if_neg k2];exact ⟨y,H',h1,h2,by omega,fun r r1 r2=>stepL r (Ev.ifT k3 (Ev.ifF hne (Ev.bind his (cont r r1 r2))))⟩
     | false=>
      rw [hk,Bool.false_or] at his;cases hl:memS t.f2 L with
      | true=>
       rw [hl] at his;rw [if_neg (fun q=>by have:=q.2.2.2;cases this),if_neg k2];exact ⟨y,H',h1,h2,by omega,fun r r1 r2=>stepL r (Ev.ifT k3 (Ev.ifF hne (Ev.bind his (cont r r1 r2))))⟩
      | false=>
       rw [hl] at his;rw [if_pos ⟨k3,rfl,rfl,rfl⟩];exact ⟨(false,L),H,rfl,hm,by omega,fun r r1 _=>stepL r (Ev.ifT k3 (Ev.ifF hne (Ev.bind his (stepJ _ _ (fun _=>r1 rfl) (fun e=>by cases e)))))⟩
   ·rw [if_neg (fun q=>k3 q.1),if_neg k2];exact ⟨y,H',h1,h2,by omega,fun r r1 r2=>stepL r (Ev.ifF k3 (cont r r1 r2))⟩
theorem scopeP (hps:ps.length≤6) (htl:∀p,p∈ps→p.f2.length≤6∧∀t,t∈p.f2→t.f2.size≤maxLen):∀i,i≤ps.length→∀(kn K:List ByteArray),(∀s,memS s kn=memS s K)→kn.length≤6 * i→
  ∃y kn',sc_p (ps.drop i) i K=some y∧(∀s,memS s kn'=memS s y.2)∧kn'.length≤36∧(y.1=-1∨0≤y.1)∧
   ∀r,(0≤y.1→r=y.1)→(y.1=-1→Ev (fun k=>z4_.l2 k kn' as_ (as_.length:Int) 0 nm sa ps es as_) r)→Ev (fun k=>z4_.l0 k kn ps (ps.length:Int) (i:Int) nm sa ps es as_) r:=by
 refine up_ind ?_ ?_
 ·intro kn K hm hl;refine ⟨(-1,K),kn,?_,hm,by omega,Or.inl rfl,?_⟩
  ·rw [List.drop_length];rfl
  ·intro r _ h2;refine Ev.step (fun k=>by simp only [z4_.l0];exact rfl) ?_;exact Ev.ifF (by omega) (h2 rfl)
 ·intro i hi ih kn K hm hl;have hrd:zq_ ps (i:Int)=ps.getD i z42:=by simp [zq_]
  rw [drop_getD z42 hi];obtain ⟨ht1,ht2⟩:=htl _ (getD_in z42 hi);generalize ps.getD i z42=p at *
  have hm0:∀s,memS s (([]:List ByteArray)++kn)=(memS s K || memS s []):=by
   intro s;rw [List.nil_append,hm s];simp [memS]
  obtain ⟨y,H',h1,h2,h3,h4⟩:=scopeT nm sa ps es as_ i (by omega) kn p.f2 p.f2 p.f0 p.f1 K ht1 ht2 0 (Nat.zero_le _) (([]:List ByteArray)++kn) [] hm0 (by simp;omega);rw [List.drop_zero] at h1
  have start:∀r,Ev (fun k=>z4_.l1 k kn (i:Int) (([]:List ByteArray)++kn) ps (ps.length:Int) (i:Int) p.f2 (p.f2.length:Int) ((0:Nat):Int) nm sa ps es as_ p.f0 p.f1 p.f2) r→Ev (fun k=>z4_.l0 k kn ps (ps.length:Int) (i:Int) nm sa ps es as_) r:=by
   intro r hr;refine Ev.step (fun k=>by simp only [z4_.l0,hrd];exact rfl) ?_;exact Ev.ifT (by omega) (Ev.ifT (by omega) (Ev.ifT (by omega) (Ev.ifT (by simp;omega) hr)))
  unfold sc_p
  rw [if_pos ht1,h1];simp only [Option.bind_some];obtain ⟨ok,L'⟩:=y;cases ok with
  | false=>
   rw [if_neg (by simp)];refine ⟨((i:Int)+1,K),kn,rfl,hm,by omega,Or.inr (by dsimp only;omega),fun r r1 r2=>start r (h4 r (fun _=>r1 (by dsimp only;omega)) (fun e=>by cases e))⟩
  | true=>
   rw [if_pos (by trivial)];dsimp only at h2 h4
   cases hneg:p.f0 with
   | true=>
    rw [if_pos (by trivial)];obtain ⟨y,kn',g1,g2,g3,g4,g5⟩:=ih kn K hm (by omega);refine ⟨y,kn',g1,g2,g3,g4,fun r r1 r2=>start r (h4 r (fun e=>by cases e) (fun _=>Ev.ifT hneg (g5 r r1 r2)))⟩
   | false=>
    rw [if_neg (by simp)]
    have hm2:∀s,memS s H'=memS s (L'++K):=by
     intro s;rw [h2 s,memS_app];cases memS s K<;>cases memS s L'<;>rfl
    obtain ⟨y,kn',g1,g2,g3,g4,g5⟩:=ih H' (L'++K) hm2 (by simp at h3;omega);refine ⟨y,kn',g1,g2,g3,g4,fun r r1 r2=>start r (h4 r (fun e=>by cases e) (fun _=>Ev.ifF (by rw [hneg];simp) (g5 r r1 r2)))⟩
def fineE (K:List ByteArray) (e:S161):Bool:=!(e.f0==1 && !(memS e.f2 K))
def allF (es:List S161) (K:List ByteArray):Nat→Nat→Bool
 | 0,_=>true
 | d+1,k=>fineE K (exA es k)&&allF es K d (k+1)
theorem allF_add (K:List ByteArray):∀a b k,allF es K (a+b) k=(allF es K a k&&allF es K b (k+a))
 | 0,b,k=>by simp [allF]
 | a+1,b,k=>by
  rw [show a+1+b=(a+b)+1 by omega];simp only [allF];rw [allF_add K a b (k+1),Bool.and_assoc,show k+1+a=k+(a+1) by omega]
theorem scE (hsz:∀e,e∈es→e.f2.size≤maxLen) (K:List ByteArray) (x:Nat) (hx:x<es.length):∀d fu k,k+d=x+1→d≤fu→∃k',sc_e es K fu (k:Int) (x:Int)=some (allF es K d k,k')∧(allF es K d k=true→k'=(x:Int)+1):=by
 intro d;induction d with
 | zero=>
  intro fu k hk _;refine ⟨(k:Int),?_,fun _=>by omega⟩;cases fu<;>(unfold sc_e;rw [if_neg (by omega)];rfl)
 | succ d ih=>
  intro fu k hk hf;cases fu with
  | zero=>omega
  | succ fu=>
   have hlt:k<es.length:=by omega
   have hin:(exA es k).f2.size≤maxLen:=hsz _ (by unfold exA;exact getD_in _ hlt)
   unfold sc_e
   rw [if_pos (by omega),rdE,if_pos ⟨by omega,by omega,hin⟩];simp only [allF,fineE];by_cases c:(exA es k).f0=1∧memS (exA es k).f2 K=false
   ·rw [if_pos c];refine ⟨(k:Int),?_,fun e=>?_⟩
    ·rw [c.1,c.2];simp
    ·rw [c.1,c.2] at e;simp at e
   ·rw [if_neg c];obtain ⟨k',h1,h2⟩:=ih fu (k+1) (by omega) (by omega)
    have e:(!((exA es k).f0==1 && !memS (exA es k).f2 K))=true:=by
     rw [Bool.not_eq_true',Bool.eq_false_iff];intro q;rw [Bool.and_eq_true,beq_iff_eq,Bool.not_eq_true'] at q;exact c q
    rw [e,Bool.true_and];refine ⟨k',?_,h2⟩;rw [←h1];congr 1
theorem scArgs {fs ds:List Int} (hT:TInv es es.length fs ds) (hsz:∀e,e∈es→e.f2.size≤maxLen) (K:List ByteArray):∀(xs:List Int) (n n':Int),Chain fs xs n n'→∀kn:Nat,n=(kn:Int)→
  ∃kn':Nat,n'=(kn':Int)∧kn≤kn'∧kn'≤max kn es.length∧(∃k',sc_args es K xs n=some (allF es K (kn'-kn) kn,k')∧(allF es K (kn'-kn) kn=true→k'=n'))∧(xs≠[]→rd xs ((xs.length:Int)-1)=n'-1∧kn<kn'):=by
 intro xs n n' hC;induction hC with
 | nil n=>
  intro kn hn;refine ⟨kn,hn,Nat.le_refl _,by omega,⟨n,?_,fun _=>rfl⟩,fun h=>absurd rfl h⟩;rw [Nat.sub_self];rfl
 | cons x xs n n' hx hf hC ih=>
  intro kn hn;have hlx:x<es.length:=by have:=hT.lf;omega
  have hx2:=hT.at_ x hlx;obtain ⟨kn',h1,h2,h3,⟨k',h4,h5⟩,h6⟩:=ih (x+1) (by omega);have hle:kn≤x:=by omega
  obtain ⟨k1,g1,g2⟩:=scE es hsz K x hlx (x+1-kn) es.length kn (by omega) (by omega);have hsp:kn'-kn=(x+1-kn)+(kn'-(x+1)):=by omega
  refine ⟨kn',h1,by omega,by omega,?_,fun _=>?_⟩
  ·rw [hsp,allF_add,show kn+(x+1-kn)=x+1 by omega];unfold sc_args
   rw [hn,g1];simp only [Option.bind_some];cases ha:allF es K (x+1-kn) kn with
   | false=>exact ⟨k1,by rw [if_neg (by simp)];rfl,fun e=>by simp at e⟩
   | true=>
    rw [if_pos (by trivial),g2 ha,Bool.true_and];exact ⟨k',h4,h5⟩
  ·by_cases hxs:xs=[]
   ·subst hxs;have:=chain_nil hC
    refine ⟨?_,by omega⟩;rw [this];simp [rd]
   ·obtain ⟨q1,q2⟩:=h6 hxs;refine ⟨?_,by omega⟩;rw [←q1];have hl:0<xs.length:=List.length_pos_iff.2 hxs
    obtain ⟨m,hm⟩:∃m,xs.length=m+1:=⟨xs.length-1,by omega⟩;unfold rd
    rw [List.length_cons,hm,show (((m+1+1:Nat):Int)-1).toNat=m+1 by omega,show (((m+1:Nat):Int)-1).toNat=m by omega,List.getD_cons_succ]
theorem scanSpec (hsz:es.length≤60) (hp6:ps.length≤6) (m:Nat) (hm:m<8) (kn K:List ByteArray) (hkn:∀s,memS s kn=memS s K) (hkl:kn.length≤36) (a:S98) (n':Nat) (hn':n'≤es.length) (hne:a.f3≠[]) (hal:a.f3.length≤9223372036854775807) (hlast:rd a.f3 ((a.f3.length:Int)-1)=(n':Int)-1):
  ∀d k,k+d=n'→∀r,(allF es K d k=false→r=(ps.length:Int)+(m:Int)+1)→(allF es K d k=true→Ev (fun f=>z4_.l2 f kn as_ (as_.length:Int) ((m+1:Nat):Int) nm sa ps es as_) r)→
   Ev (fun f=>z4_.l3 f kn (m:Int) (k:Int) as_ (as_.length:Int) (m:Int) nm sa ps es as_ a.f0 a.f1 a.f2 a.f3) r:=by
 have hl:0<a.f3.length:=List.length_pos_iff.2 hne
 have hw:wrap64 ((a.f3.length:Int)-1)=(a.f3.length:Int)-1:=by unfold wrap64;omega
 intro d;induction d with
 | zero=>
  intro k hk r _ h2;refine Ev.step (fun f=>by simp only [z4_.l3,hw,hlast,x7_ hm (show 8≤9223372036854775807 by omega)];exact rfl) ?_;exact Ev.ifT (by omega) (Ev.ifT (by omega) (Ev.ifF (by omega) (h2 rfl)))
 | succ d ih=>
  intro k hk r h1 h2;have hlt:k<es.length:=by omega
  refine Ev.step (fun f=>by simp only [z4_.l3,hw,hlast,x7_ hlt (show es.length≤9223372036854775807 by omega),rdE];exact rfl) ?_;refine Ev.ifT (by omega) (Ev.ifT (by omega) (Ev.ifT (by omega) (Ev.ifT (by omega) (Ev.ifT (by omega) ?_))));simp only [allF,fineE] at h1 h2
  have rest:fineE K (exA es k)=true→Ev (fun f=>z4_.l3 f kn (m:Int) ((k+1:Nat):Int) as_ (as_.length:Int) (m:Int) nm sa ps es as_ a.f0 a.f1 a.f2 a.f3) r:=by
   intro e;unfold fineE at e
   rw [e,Bool.true_and] at h1 h2;exact ih (k+1) (by omega) r h1 h2
  refine Ev.ite (fun c=>?_) (fun c=>?_)
  ·have his:=l2Is_some (exA es k).f2 kn (by omega);rw [memB_eq,hkn] at his;refine Ev.bind his ?_;cases hme:memS (exA es k).f2 K with
   | true=>exact Ev.ifT (by trivial) (rest (by unfold fineE;rw [hme];simp))
   | false=>
    refine Ev.ifF (by simp) (Ev.as (Ev.now _) ?_);rw [h1 (by rw [c,hme];simp)];exact wrap2 ps.length m hp6 hm
  ·exact rest (by unfold fineE;rw [beq_eq_false_iff_ne.2 c];rfl)
theorem scopeA {fs ds:List Int} (hT:TInv es es.length fs ds) (h60:es.length≤60) (hp6:ps.length≤6) (ha8:as_.length≤8) (hsz:∀e,e∈es→e.f2.size≤maxLen) (kn K:List ByteArray) (hkn:∀s,memS s kn=memS s K) (hkl:kn.length≤36):
  ∀m,m≤as_.length→∀(n n':Int) (nn:Nat),n=(nn:Int)→nn≤es.length→Chains fs (as_.drop m) n n'→
  ∃v,sc_acts es K ps.length (as_.drop m) m n=some v∧(v=-1∨0≤v)∧Ev (fun k=>z4_.l2 k kn as_ (as_.length:Int) (m:Int) nm sa ps es as_) v:=by
 refine up_ind ?_ ?_
 ·intro n n' nn _ _ _;refine ⟨-1,?_,Or.inl rfl,?_⟩
  ·rw [List.drop_length];rfl
  ·refine Ev.step (fun k=>by simp only [z4_.l2];exact rfl) ?_;exact Ev.ifF (by omega) (Ev.now _)
 ·intro m hm ih n n' nn hn hnn hC;have hrd:y3_ as_ (m:Int)=as_.getD m z98:=by simp [y3_]
  rw [drop_getD z98 hm] at hC ⊢;generalize as_.getD m z98=a at *;cases hC with
  | cons _ _ _ n1 _ hOK h1 h2=>
  obtain ⟨kn1,g1,g2,g3,⟨k',g4,g5⟩,g6⟩:=scArgs es hT hsz K a.f3 n n1 h1 nn hn;obtain ⟨v,e1,e2,e3⟩:=ih n1 n' kn1 g1 (by omega) h2
  have start:∀r,Ev (fun k=>if (a.f3.length:Int)=0 then (z4_.l2 k kn as_ (as_.length:Int) ((m+1:Nat):Int) nm sa ps es as_) else (if 0<(a.f3.length:Int) then ((y1_.f k es (rd a.f3 0)).bind fun t188=>(z4_.l3 k kn (m:Int) t188 as_ (as_.length:Int) (m:Int) nm sa ps es as_ a.f0 a.f1 a.f2 a.f3)) else (none))) r→Ev (fun k=>z4_.l2 k kn as_ (as_.length:Int) (m:Int) nm sa ps es as_) r:=by
   intro r hr;refine Ev.step (fun k=>by simp only [z4_.l2,hrd,x7_ hm (show as_.length≤9223372036854775807 by omega)];exact rfl) ?_;exact Ev.ifT (by omega) (Ev.ifT (by omega) (Ev.ifT (by omega) hr))
  unfold sc_acts
  rw [g4];simp only [Option.bind_some];by_cases hne:a.f3=[]
  ·have hnn1:n1=n:=by rw [hne] at h1;exact chain_nil h1
   have hkk:kn1=nn:=by omega
   rw [hkk,Nat.sub_self] at g5 ⊢;rw [if_pos (by rfl),g5 rfl];refine ⟨v,e1,e2,start _ (Ev.ifT (by rw [hne];rfl) e3)⟩
  ·obtain ⟨q1,q2⟩:=g6 hne;have hl:0<a.f3.length:=List.length_pos_iff.2 hne
   have hfirst:Ev (fun k=>y1_.f k es (rd a.f3 0)) n:=by
    obtain ⟨f0,f1,f2,f3⟩:=a;dsimp only at h1 hne ⊢
    cases h1 with
    | nil=>exact absurd rfl hne
    | cons x xs _ _ hx hf _=>
     have:=first_ev hT (Nat.le_refl _) x (by have:=hT.lf;omega)
     rw [hf] at this;exact this
   have scan:=scanSpec nm sa ps es as_ h60 hp6 m (by omega) kn K hkn hkl a kn1 (by omega) hne (by have:=hOK.1;omega) (by rw [q1,g1]) (kn1-nn) nn (by omega);cases hall:allF es K (kn1-nn) nn with
   | true=>
    rw [if_pos (by trivial),g5 hall];refine ⟨v,e1,e2,start _ (Ev.ifF (by omega) (Ev.ifT (by omega) (Ev.bind hfirst ?_)))⟩;rw [hn];exact scan v (fun e=>by rw [hall] at e;cases e) (fun _=>e3)
   | false=>
    rw [if_neg (by simp)];refine ⟨(ps.length:Int)+(m:Int)+1,rfl,Or.inr (by omega),start _ (Ev.ifF (by omega) (Ev.ifT (by omega) (Ev.bind hfirst ?_)))⟩;rw [hn];exact scan _ (fun _=>rfl) (fun e=>by rw [hall] at e;cases e)
end
theorem goodTerm_size (t:S86) (h:ym_ t=true):t.f2.size≤20:=by
 have e0:t.f2.toList.isEmpty=true→t.f2.size=0:=by
  intro e;rw [ByteArray.toList_eq,List.isEmpty_iff] at e;have:=congrArg List.length e
  rw [Array.length_toList] at this;simpa using this
 have e1:xm_ t.f2=true→t.f2.size≤20:=by
  intro e;unfold xm_ at e
  split at e
  ·cases e
  split at e
  ·cases e
  omega
 unfold ym_ at h
 split at h
 ·simp only [Bool.and_eq_true] at h;rw [e0 h.2.1];omega
 split at h
 ·simp only [Bool.and_eq_true] at h;rw [e0 h.1.2];omega
 split at h
 ·simp only [Bool.and_eq_true] at h;exact e1 h.2
 split at h
 ·split at h
  ·cases h
  split at h
  ·cases h
  split at h
  ·rename_i e
   rw [e0 e];omega
  ·simp only [Bool.and_eq_true] at h;exact e1 h.1
 ·cases h
theorem goodPat_parts {cls:ByteArray} {ts:List S86} (h:wo_ cls ts=true):goodClsB cls=true∧ts.length≤6∧∀t,t∈ts→ym_ t=true:=by
 unfold wo_ at h
 simp only [Bool.and_eq_true,decide_eq_true_eq,List.all_eq_true] at h;exact ⟨h.1,h.2.1,h.2.2⟩
theorem scope_both (nm:ByteArray) (sa:Int) (ps:List S42) (es:List S161) (as_:List S98) (hsz:∀e,e∈es→e.f2.size≤maxLen) (hS:ShapeOK nm ps es as_):
  ∃v,Ev (fun k=>z4_.f k nm sa ps es as_) v∧xc_.f nm sa ps es as_=some v∧(v=-1∨0≤v):=by
 obtain ⟨_,hp6,ha8,h60,hgp,fs,ds,hT,hC⟩:=hS
 have htl:∀p,p∈ps→p.f2.length≤6∧∀t,t∈p.f2→t.f2.size≤maxLen:=by
  intro p hp;obtain ⟨_,h2,h3⟩:=goodPat_parts (hgp p hp);exact ⟨h2,fun t ht=>Nat.le_trans (goodTerm_size t (h3 t ht)) (by unfold maxLen;omega)⟩
 obtain ⟨y,kn',h1,h2,h3,h4,h5⟩:=scopeP nm sa ps es as_ hp6 htl 0 (Nat.zero_le _) [] [] (fun _=>rfl) (by simp);rw [List.drop_zero] at h1
 have start:∀r,Ev (fun k=>z4_.l0 k ([]:List ByteArray) ps (ps.length:Int) ((0:Nat):Int) nm sa ps es as_) r→Ev (fun k=>z4_.f k nm sa ps es as_) r:=by
  intro r hr;exact Ev.congr (fun k=>by unfold z4_.f;exact rfl) hr
 unfold xc_.f
 rw [if_pos ⟨hp6,h60,ha8⟩,h1];simp only [Option.bind_some];rcases h4 with h4|h4
 ·rw [if_pos h4];obtain ⟨v,e1,e2,e3⟩:=scopeA nm sa ps es as_ hT h60 hp6 ha8 hsz kn' y.2 h2 h3 0 (Nat.zero_le _) 0 _ 0 rfl (Nat.zero_le _) (by rw [List.drop_zero];exact hC);rw [List.drop_zero] at e1;exact ⟨v,start v (h5 v (fun e=>by omega) (fun _=>e3)),e1,e2⟩
 ·rw [if_neg (by omega)];exact ⟨y.1,start _ (h5 _ (fun _=>rfl) (fun e=>by omega)),rfl,Or.inr h4⟩
def posN (ps:List S42):Nat:=(ps.filter fun p=>!p.f0).length
theorem posN_cons (p:S42) (ps:List S42):posN (p::ps)=if p.f0=true then posN ps else posN ps+1:=by
 unfold posN
 rw [List.filter_cons];cases p.f0<;>simp
theorem specPos (ps:List S42) (hl:ps.length≤6):∀i,i≤ps.length→∀c:Int,0≤c→c≤100→Ev (fun k=>zt_.l0 k c ps (ps.length:Int) (i:Int)) (c+(posN (ps.drop i):Int)):=by
 have key:∀i,i≤ps.length→∀c:Int,0≤c→c≤100+(i:Int)→Ev (fun k=>zt_.l0 k c ps (ps.length:Int) (i:Int)) (c+(posN (ps.drop i):Int)):=by
  refine up_ind ?_ ?_
  ·intro c _ _;rw [List.drop_length];refine Ev.step (fun k=>by simp only [zt_.l0];exact rfl) ?_;exact Ev.ifF (by omega) (Ev.as (Ev.now _) (by simp [posN]))
  ·intro i hi ih c h0 h1;have hrd:zq_ ps (i:Int)=ps.getD i z42:=by simp [zq_]
   rw [drop_getD z42 hi,posN_cons];refine Ev.step (fun k=>by simp only [zt_.l0,x7_ hi (show ps.length≤9223372036854775807 by omega),hrd];exact rfl) ?_;refine Ev.ifT (by omega) (Ev.ifT (by omega) (Ev.ifT (by omega) ?_));refine Ev.ite (fun q=>?_) (fun q=>?_)
   ·rw [if_pos q];exact ih c h0 (by omega)
   ·rw [if_neg q];rw [show wrap64 (c+1)=c+1 by unfold wrap64;omega];exact Ev.as (ih (c+1) (by omega) (by omega)) (by omega)
 intro i hi c h0 h1;exact key i hi c h0 (by omega)
theorem implPos (ps:List S42) (hl:ps.length≤6):∀i,i≤ps.length→∀c:Int,0≤c→c≤100+(i:Int)→Ev (fun k=>zm_.l0 k c ps (ps.length:Int) (i:Int)) (c+(posN (ps.drop i):Int)):=by
 refine up_ind ?_ ?_
 ·intro c _ _;rw [List.drop_length];refine Ev.step (fun k=>by simp only [zm_.l0];exact rfl) ?_;exact Ev.ifF (by omega) (Ev.as (Ev.now _) (by simp [posN]))
 ·intro i hi ih c h0 h1;have hrd:zq_ ps (i:Int)=ps.getD i z42:=by simp [zq_]
  rw [drop_getD z42 hi,posN_cons];refine Ev.step (fun k=>by simp only [zm_.l0,x7_ hi (show ps.length≤9223372036854775807 by omega),hrd];exact rfl) ?_;refine Ev.ifT (by omega) (Ev.ifT (by omega) (Ev.ifT (by omega) ?_));refine Ev.ite (fun q=>?_) (fun q=>?_)
  ·rw [if_pos q];exact ih c h0 (by omega)
  ·rw [if_neg q];rw [show wrap64 (c+1)=c+1 by unfold wrap64;omega];exact Ev.as (ih (c+1) (by omega) (by omega)) (by omega)
theorem specPos_some (nm:ByteArray) (sa:Int) (ps:List S42) (es:List S161) (as_:List S98) (hl:ps.length≤6):Ev (fun k=>zt_.f k nm sa ps es as_) (posN ps:Int):=by
 refine Ev.congr (fun k=>by unfold zt_.f;exact rfl) ?_;exact Ev.as (specPos ps hl 0 (Nat.zero_le _) 0 (by omega) (by omega)) (by rw [List.drop_zero];omega)
theorem implPos_some (nm:ByteArray) (sa:Int) (ps:List S42) (es:List S161) (as_:List S98) (hl:ps.length≤6):Ev (fun k=>zm_.f k nm sa ps es as_) (posN ps:Int):=by
 refine Ev.congr (fun k=>by unfold zm_.f;exact rfl) ?_;exact Ev.as (implPos ps hl 0 (Nat.zero_le _) 0 (by omega) (by omega)) (by rw [List.drop_zero];omega)
theorem ck_acts_sign (n:Int) (lp:Nat):∀(as_:List S98) (j:Nat),ck_acts n lp as_ j=-1∨0≤ck_acts n lp as_ j
 | [],j=>Or.inl rfl
 | a::as_,j=>by
  unfold ck_acts
  split
  ·exact Or.inr (by omega)
  ·exact ck_acts_sign n lp as_ (j+1)
def RuleSz (q:S39):Prop:=q.f0.size≤maxLen∧(∀e,e∈q.f3→okByte e.f1∧e.f2.size≤maxLen)
def RuleOK (q:S39):Prop:=ShapeOK q.f0 q.f2 q.f3 q.f4∧1≤posN q.f2∧posN q.f2≤3∧xc_.f q.f0 q.f1 q.f2 q.f3 q.f4=some (-1)∧ck_acts (posN q.f2:Int) q.f2.length q.f4 0=-1
section
variable (R:List S39)
theorem ckSpec (i:Nat) (hi:i<R.length) (q:S39) (n:Int) (hp:q.f2.length≤6) (ha:q.f4.length≤8):∀m,m≤q.f4.length→∀r,(0≤ck_acts n q.f2.length (q.f4.drop m) m→r=(5,(i:Int),ck_acts n q.f2.length (q.f4.drop m) m))→
  (ck_acts n q.f2.length (q.f4.drop m) m=-1→Ev (fun k=>z7_.l0 k R R (R.length:Int) (wrap64 ((i:Int)+1))) r)→
  Ev (fun k=>z7_.l2 k R (i:Int) n R (R.length:Int) (i:Int) q.f4 (q.f4.length:Int) (m:Int) q.f0 q.f1 q.f2 q.f3 q.f4) r:=by
 refine up_ind ?_ ?_
 ·intro r _ h2;refine Ev.step (fun k=>by simp only [z7_.l2];exact rfl) ?_;refine Ev.ifF (by omega) (h2 ?_);rw [List.drop_length];rfl
 ·intro m hm ih r h1 h2;have hrd:y3_ q.f4 (m:Int)=q.f4.getD m z98:=by simp [y3_]
  rw [drop_getD z98 hm] at h1 h2;refine Ev.step (fun k=>by simp only [z7_.l2,x7_ hm (show q.f4.length≤9223372036854775807 by omega),hrd];exact rfl) ?_;generalize q.f4.getD m z98=a at *;unfold ck_acts at h1 h2
  refine Ev.ifT (by omega) (Ev.ifT (by omega) (Ev.ifT (by omega) ?_))
  have bad:(a.f0=2∨a.f0=3)∧(a.f1<1∨n<a.f1)→Ev (fun _=>some ((5,(i:Int),wrap64 (wrap64 ((q.f2.length:Int)+(m:Int))+1)):Int×Int×Int)) r:=by
   intro c;rw [if_pos c] at h1;refine Ev.as (Ev.now _) ?_;rw [h1 (by omega),wrap2 q.f2.length m hp (by omega)]
  have good:¬((a.f0=2∨a.f0=3)∧(a.f1<1∨n<a.f1))→Ev (fun k=>z7_.l2 k R (i:Int) n R (R.length:Int) (i:Int) q.f4 (q.f4.length:Int) ((m+1:Nat):Int) q.f0 q.f1 q.f2 q.f3 q.f4) r:=by
   intro c;rw [if_neg c] at h1 h2;exact ih r h1 h2
  refine Ev.ite (fun c2=>?_) (fun c2=>?_)
  ·refine Ev.ite (fun d1=>bad ⟨Or.inl c2,Or.inl d1⟩) (fun d1=>?_);exact Ev.ite (fun d2=>bad ⟨Or.inl c2,Or.inr d2⟩) (fun d2=>good (fun z=>by rcases z.2 with z|z;exact d1 z;exact d2 z))
  ·refine Ev.ite (fun c3=>?_) (fun c3=>?_)
   ·refine Ev.ite (fun d1=>bad ⟨Or.inr c3,Or.inl d1⟩) (fun d1=>?_);exact Ev.ite (fun d2=>bad ⟨Or.inr c3,Or.inr d2⟩) (fun d2=>good (fun z=>by rcases z.2 with z|z;exact d1 z;exact d2 z))
   ·exact good (fun z=>by rcases z.1 with z|z;exact c2 z;exact c3 z)
theorem nameSpec (i:Nat) (hi:i<R.length) (h16:R.length≤16) (q:S39) (T:List S39) (hT:T.length≤16):∀j,j≤T.length→∀r,(memS q.f0 ((T.drop j).map fun p=>p.f0)=true→r=(2,(i:Int),0))→
  (memS q.f0 ((T.drop j).map fun p=>p.f0)=false→Ev (fun k=>(zt_.f k q.f0 q.f1 q.f2 q.f3 q.f4).bind fun t203=>(if t203<1 then (z7_.j2 k R (i:Int) t203 R (R.length:Int) (i:Int) true q.f0 q.f1 q.f2 q.f3 q.f4) else (z7_.j2 k R (i:Int) t203 R (R.length:Int) (i:Int) (decide (t203>3)) q.f0 q.f1 q.f2 q.f3 q.f4))) r)→
  Ev (fun k=>z7_.l1 k R (i:Int) R (R.length:Int) (i:Int) T (T.length:Int) (j:Int) q.f0 q.f1 q.f2 q.f3 q.f4) r:=by
 refine up_ind ?_ ?_
 ·intro r _ h2;refine Ev.step (fun k=>by simp only [z7_.l1];exact rfl) ?_;refine Ev.ifF (by omega) (h2 ?_);rw [List.drop_length];rfl
 ·intro j hj ih r h1 h2;have hrd:z9_ T (j:Int)=T.getD j z39:=by simp [z9_]
  rw [drop_getD z39 hj] at h1 h2;refine Ev.step (fun k=>by simp only [z7_.l1,x7_ hj (show T.length≤9223372036854775807 by omega),hrd];exact rfl) ?_;generalize T.getD j z39=p at *;simp only [List.map_cons,memS] at h1 h2;refine Ev.ifT (by omega) (Ev.ifT (by omega) (Ev.ifT (by omega) ?_));refine Ev.ite (fun c=>?_) (fun c=>?_)
  ·rw [beq_iff_eq.2 c,Bool.true_or] at h1;exact Ev.as (Ev.now _) (h1 rfl).symm
  ·rw [beq_eq_false_iff_ne.2 c,Bool.false_or] at h1 h2;exact ih r h1 h2
theorem memS_rev (s:ByteArray) (L:List ByteArray):memS s L.reverse=memS s L:=by
 induction L with
 | nil=>rfl
 | cons u r ih=>
  rw [List.reverse_cons,memS_snoc,ih];simp only [memS];exact Bool.or_comm _ _
def namesB (i:Nat):List ByteArray:=((R.take i).map fun p=>p.f0).reverse
theorem checkLoop (h16:R.length≤16) (hsz:∀q,q∈R→RuleSz q):∀i,i≤R.length→∃y:Int×Int×Int,Ev (fun k=>z7_.l0 k R R (R.length:Int) (i:Int)) y∧Ev (fun k=>ck_rules k (R.drop i) i (namesB R i)) y∧
  (y=(0,0,0)∧(∀j,i≤j→j<R.length→RuleOK (R.getD j z39)∧memS (R.getD j z39).f0 (namesB R j)=false)∨1≤y.1):=by
 refine up_ind ?_ ?_
 ·refine ⟨(0,0,0),?_,?_,Or.inl ⟨rfl,fun j h1 h2=>by omega⟩⟩
  ·refine Ev.step (fun k=>by simp only [z7_.l0];exact rfl) ?_;exact Ev.ifF (by omega) (Ev.now _)
  ·rw [List.drop_length];exact Ev.now _
 ·intro i hi ih;obtain ⟨y,ih1,ih2,ih3⟩:=ih;have hrd:z9_ R (i:Int)=R.getD i z39:=by simp [z9_]
  have hq:=hsz _ (getD_in z39 hi)
  have hnext:namesB R (i+1)=(R.getD i z39).f0::namesB R i:=by
   unfold namesB
   rw [List.take_succ_eq_append_getElem hi,List.map_append,List.reverse_append,getD_lt z39 hi];rfl
  rw [hnext] at ih2
  have hcase:(RuleOK (R.getD i z39)∧memS (R.getD i z39).f0 (namesB R i)=false)→(y=(0,0,0)∧(∀j,i≤j→j<R.length→RuleOK (R.getD j z39)∧memS (R.getD j z39).f0 (namesB R j)=false)∨1≤y.1):=by
   intro hc;refine ih3.imp (fun z=>⟨z.1,fun j h1 h2=>?_⟩) id;by_cases e:j=i
   ·subst e;exact hc
   ·exact z.2 j (by omega) h2
  rw [drop_getD z39 hi];clear ih3 hnext
  have startS:∀r,Ev (fun k=>(zc_.f k (R.getD i z39).f0 (R.getD i z39).f1 (R.getD i z39).f2 (R.getD i z39).f3 (R.getD i z39).f4).bind fun t196=>(if t196≥0 then (some (1,(i:Int),t196)) else (z7_.l1 k R (i:Int) R (R.length:Int) (i:Int) (R.take i) ((R.take i).length:Int) ((0:Nat):Int) (R.getD i z39).f0 (R.getD i z39).f1 (R.getD i z39).f2 (R.getD i z39).f3 (R.getD i z39).f4))) r→Ev (fun k=>z7_.l0 k R R (R.length:Int) (i:Int)) r:=by
   intro r hr;obtain ⟨Kr,hr⟩:=hr;refine ⟨Kr+1,fun k hk=>?_⟩;obtain ⟨m,rfl⟩:∃m,k=m+1:=⟨k-1,by omega⟩;have:=hr m (by omega)
   dsimp only at this ⊢
   simp only [z7_.l0,hrd];rw [if_pos (by omega),if_pos (by omega),if_pos (by omega),if_pos (by omega)];simp only [Option.bind_some,Int.toNat_natCast];exact this
  generalize hqq:R.getD i z39=q at *;obtain ⟨hq0,hqe⟩:=hq;obtain ⟨v,hs1,hs2,hs3⟩:=shape_both q.f0 q.f1 q.f2 q.f3 q.f4 (fun e he=>(hqe e he).1)
  have startI:∀r,Ev (fun k=>(if 0≤v then some (1,(i:Int),v) else
   if memS q.f0 (namesB R i)=true then some (2,(i:Int),0) else
   (zm_.f k q.f0 q.f1 q.f2 q.f3 q.f4).bind fun n=>if n<1∨3<n then some (3,(i:Int),0) else
   (xc_.f q.f0 q.f1 q.f2 q.f3 q.f4).bind fun c=>if 0≤c then some (4,(i:Int),c) else
   if q.f2.length≤6∧q.f4.length≤8 then (if ck_acts n q.f2.length q.f4 0=-1 then ck_rules k (R.drop (i+1)) (i+1) (q.f0::namesB R i) else some (5,(i:Int),ck_acts n q.f2.length q.f4 0)) else none:Option (Int×Int×Int))) r→Ev (fun k=>ck_rules k (q::R.drop (i+1)) i (namesB R i)) r:=by
   intro r hr;refine Ev.congr (fun k=>by unfold ck_rules;rw [if_pos hq0,hs2]) ?_;exact hr
  rcases hs3 with ⟨hv,hS⟩|hv
  rotate_left
  ·exact ⟨(1,(i:Int),v),startS _ (Ev.bind hs1 (Ev.ifT hv (Ev.now _))),startI _ (Ev.ifT hv (Ev.now _)),Or.inr (by dsimp only;omega)⟩
  replace startS:=fun r hr=>startS r (Ev.bind hs1 (Ev.ifF (by omega) hr))
  replace startI:=fun r hr=>startI r (Ev.ifF (by omega) hr)
  have hS2:=hS;obtain ⟨_,hp6,ha8,h60,_,_⟩:=hS2
  have hnames:memS q.f0 (((R.take i).drop 0).map fun p=>p.f0)=memS q.f0 (namesB R i):=by
   unfold namesB
   rw [memS_rev,List.drop_zero]
  have hname:=nameSpec R i hi h16 q (R.take i) (by rw [List.length_take];omega) 0 (Nat.zero_le _);rw [hnames] at hname;cases hm:memS q.f0 (namesB R i) with
  | true=>
   rw [hm] at startI hname;exact ⟨(2,(i:Int),0),startS _ (hname _ (fun _=>rfl) (fun e=>by cases e)),startI _ (Ev.ifT (by trivial) (Ev.now _)),Or.inr (by dsimp only;omega)⟩
  | false=>
  rw [hm] at startI hname hcase;replace startI:=fun r hr=>startI r (Ev.ifF (by simp) (Ev.bind (implPos_some q.f0 q.f1 q.f2 q.f3 q.f4 hp6) hr))
  replace startS:=fun r hr=>startS r (hname r (fun e=>by cases e) (fun _=>Ev.bind (specPos_some q.f0 q.f1 q.f2 q.f3 q.f4 hp6) hr))
  have hj2:∀b r,(b=true→r=(3,(i:Int),0))→(b=false→Ev (fun k=>(z4_.f k q.f0 q.f1 q.f2 q.f3 q.f4).bind fun t204=>(if t204≥0 then (some (4,(i:Int),t204)) else (z7_.l2 k R (i:Int) (posN q.f2:Int) R (R.length:Int) (i:Int) q.f4 (q.f4.length:Int) 0 q.f0 q.f1 q.f2 q.f3 q.f4))) r)→
    Ev (fun k=>z7_.j2 k R (i:Int) (posN q.f2:Int) R (R.length:Int) (i:Int) b q.f0 q.f1 q.f2 q.f3 q.f4) r:=by
   intro b r h1 h2;refine Ev.step (fun k=>by simp only [z7_.j2];exact rfl) ?_;cases b with
   | true=>exact Ev.ifT (by trivial) (Ev.as (Ev.now _) (h1 rfl).symm)
   | false=>exact Ev.ifF (by simp) (h2 rfl)
  by_cases n1:(posN q.f2:Int)<1
  ·exact ⟨(3,(i:Int),0),startS _ (Ev.ifT n1 (hj2 _ _ (fun _=>rfl) (fun e=>by cases e))),startI _ (Ev.ifT (Or.inl n1) (Ev.now _)),Or.inr (by dsimp only;omega)⟩
  by_cases n3:(posN q.f2:Int)>3
  ·exact ⟨(3,(i:Int),0),startS _ (Ev.ifF n1 (hj2 _ _ (fun _=>rfl) (fun e=>absurd n3 (of_decide_eq_false e)))),startI _ (Ev.ifT (Or.inr n3) (Ev.now _)),Or.inr (by dsimp only;omega)⟩
  replace startS:=fun r hr=>startS r (Ev.ifF n1 (hj2 _ r (fun e=>absurd (of_decide_eq_true e) n3) (fun _=>hr)))
  replace startI:=fun r hr=>startI r (Ev.ifF (by omega) hr)
  obtain ⟨c,hc1,hc2,hc3⟩:=scope_both q.f0 q.f1 q.f2 q.f3 q.f4 (fun e he=>(hqe e he).2) hS;replace startI:=fun r hr=>startI r (Ev.bindE hc2 hr)
  rcases hc3 with hc3|hc3
  rotate_left
  ·exact ⟨(4,(i:Int),c),startS _ (Ev.bind hc1 (Ev.ifT hc3 (Ev.now _))),startI _ (Ev.ifT hc3 (Ev.now _)),Or.inr (by dsimp only;omega)⟩
  replace startS:=fun r hr=>startS r (Ev.bind hc1 (Ev.ifF (by omega) hr))
  replace startI:=fun r hr=>startI r (Ev.ifF (by omega) (Ev.ifT ⟨hp6,ha8⟩ hr))
  have hck:=ckSpec R i hi q (posN q.f2:Int) hp6 ha8 0 (Nat.zero_le _);rw [List.drop_zero] at hck;rcases ck_acts_sign (posN q.f2:Int) q.f2.length q.f4 0 with hk|hk
  ·refine ⟨y,startS _ (hck _ (fun e=>by omega) (fun _=>?_)),startI _ (Ev.ifT hk ih2),hcase ⟨⟨hS,by omega,by omega,by rw [hc2,hc3],hk⟩,rfl⟩⟩;rw [x7_ hi (show R.length≤9223372036854775807 by omega)];exact ih1
  ·exact ⟨_,startS _ (hck _ (fun _=>rfl) (fun e=>by omega)),startI _ (Ev.ifF (by omega) (Ev.now _)),Or.inr (by dsimp only;omega)⟩
theorem check_both (hsz:∀q,q∈R→RuleSz q):∃y:Int×Int×Int,Ev (fun k=>z7_.f k R) y∧Ev (fun k=>xz_.f k R) y∧
  (y=(0,0,0)∧R.length≤16∧(∀j,j<R.length→RuleOK (R.getD j z39)∧memS (R.getD j z39).f0 (namesB R j)=false)∨1≤y.1):=by
 by_cases c:16<R.length
 ·refine ⟨(1,0,0),?_,?_,Or.inr (by dsimp only;omega)⟩
  ·refine Ev.congr (fun k=>by unfold z7_.f;exact rfl) ?_;exact Ev.ifT (by omega) (Ev.now _)
  ·refine Ev.congr (fun k=>by unfold xz_.f;exact rfl) ?_;exact Ev.ifT c (Ev.now _)
 ·obtain ⟨y,h1,h2,h3⟩:=checkLoop R (by omega) hsz 0 (Nat.zero_le _);refine ⟨y,?_,?_,h3.imp (fun z=>⟨z.1,by omega,fun j hj=>z.2 j (Nat.zero_le _) hj⟩) id⟩
  ·refine Ev.congr (fun k=>by unfold z7_.f;exact rfl) ?_;exact Ev.ifF (by omega) h1
  ·refine Ev.congr (fun k=>by unfold xz_.f;exact rfl) ?_;refine Ev.ifF c ?_;rw [List.drop_zero] at h2;exact h2
end
theorem checked_both (R:List S39) (hsz:∀q,q∈R→RuleSz q):∃b:Bool,Ev (fun k=>xr_.f k R) b∧Ev (fun k=>wq_.f k R) b∧
  (b=true→R.length≤16∧∀j,j<R.length→RuleOK (R.getD j z39)∧memS (R.getD j z39).f0 (namesB R j)=false):=by
 obtain ⟨y,h1,h2,h3⟩:=check_both R hsz;rcases h3 with ⟨rfl,h4⟩|h4
 ·refine ⟨true,?_,?_,fun _=>h4⟩
  ·refine Ev.congr (fun k=>by unfold xr_.f;exact rfl) (Ev.bind h1 ?_);exact Ev.as (Ev.now _) rfl
  ·refine Ev.congr (fun k=>by unfold wq_.f;exact rfl) (Ev.bind h2 ?_);exact Ev.as (Ev.now _) rfl
 ·have hf:(y.1==0)=false:=by simp only [beq_eq_false_iff_ne];omega
  refine ⟨false,?_,?_,fun h=>absurd h (by simp)⟩
  ·refine Ev.congr (fun k=>by unfold xr_.f;exact rfl) (Ev.bind h1 ?_);refine Ev.as (Ev.now _) ?_;rw [hf];rfl
  ·refine Ev.congr (fun k=>by unfold wq_.f;exact rfl) (Ev.bind h2 ?_);exact Ev.as (Ev.now _) hf
open Go.Lib
def decVal (l:List UInt8):Nat:=l.foldl (fun a c=>a*10+(c.toNat-48)) 0
theorem decVal_snoc (l:List UInt8) (c:UInt8):decVal (l++[c])=decVal l*10+(c.toNat-48):=by simp [decVal]
theorem digit_toNat {d:Nat} (h:d<10):(UInt8.ofNat (48+d)).toNat=48+d:=by
 rw [UInt8.toNat_ofNat'];omega
theorem decVal_dec (u:Nat):decVal (decDigits u)=u:=by
 induction u using Nat.strongRecOn with
 | _ u ih=>
  rw [decDigits];split
  ·rename_i h
   show 0*10+((UInt8.ofNat (48+u)).toNat-48)=u;rw [digit_toNat h];omega
  ·rename_i h
   rw [decVal_snoc,ih (u / 10) (by omega),digit_toNat (by omega)];omega
theorem dec_digits (u:Nat):∀c,c∈decDigits u→48≤c.toNat∧c.toNat≤57:=by
 induction u using Nat.strongRecOn with
 | _ u ih=>
  intro c hc;rw [decDigits] at hc;split at hc
  ·rename_i h
   rw [List.mem_singleton.1 hc,digit_toNat h];omega
  ·rename_i h
   rcases List.mem_append.1 hc with h1|h1
   ·exact ih (u / 10) (by omega) c h1
   ·rw [List.mem_singleton.1 h1,digit_toNat (by omega)];omega
theorem itoa_inj {m n:Int} (h:itoa m=itoa n):m=n:=by
 unfold itoa at h
 have key:∀u v:Nat,(45:UInt8)::decDigits u≠decDigits v:=by
  intro u v e;have:=dec_digits v 45 (by rw [←e];exact List.mem_cons_self)
  have e2:(45:UInt8).toNat=45:=rfl
  omega
 split at h<;>split at h
 ·have:=congrArg decVal (List.cons.inj h).2
  rw [decVal_dec,decVal_dec] at this;omega
 ·exact absurd h (key _ _)
 ·exact absurd h.symm (key _ _)
 ·have:=congrArg decVal h
  rw [decVal_dec,decVal_dec] at this;omega
theorem itoa_signs (n:Int):∀c,c∈itoa n→c.toNat=45∨(48≤c.toNat∧c.toNat≤57):=by
 intro c hc;unfold itoa at hc
 split at hc
 ·rcases List.mem_cons.1 hc with h|h
  ·left;rw [h];rfl
  ·exact .inr (dec_digits _ c h)
 ·exact .inr (dec_digits _ c hc)
theorem cut_inj {α : Type} {c : α}:∀ {a b x y:List α},c∉a→c∉b→a++c::x=b++c::y→a=b∧x=y
 | [],[],x,y,_,_,h=>⟨rfl,(List.cons.inj h).2⟩
 | [],d::b,x,y,_,hb,h=>absurd (List.mem_cons.2 (.inl (List.cons.inj h).1)) hb
 | d::a,[],x,y,ha,_,h=>absurd (List.mem_cons.2 (.inl (List.cons.inj h).1.symm)) ha
 | d::a,e::b,x,y,ha,hb,h=>by
  obtain ⟨h1,h2⟩:=List.cons.inj h;obtain ⟨h3,h4⟩:=cut_inj (fun hm=>ha (List.mem_cons_of_mem _ hm)) (fun hm=>hb (List.mem_cons_of_mem _ hm)) h2;exact ⟨by rw [h1,h3],h4⟩
def bl (s:ByteArray):List UInt8:=s.data.toList
theorem bl_app (s t:ByteArray):bl (s++t)=bl s++bl t:=by unfold bl;rw [ByteArray.data_append,Array.toList_append]
theorem bl_inj {s t:ByteArray} (h:bl s=bl t):s=t:=by
 cases s with|mk a=>
 cases t with|mk b=>
 exact congrArg ByteArray.mk (Array.toList_inj.1 h)
theorem bl_itoa (n:Int):bl (itoaB n)=itoa n:=by unfold bl itoaB;simp
theorem bl_num (n:Int) (x:List UInt8):bl (numT n)++x=itoa n++(44:UInt8)::x:=by
 unfold numT
 rw [bl_app,bl_itoa,List.append_assoc];rfl
theorem comma_out (n:Int):(44:UInt8)∉itoa n:=fun h=>by
 have:=itoa_signs n 44 h
 have e:(44:UInt8).toNat=44:=rfl
 omega
theorem semi_out (n:Int):(59:UInt8)∉itoa n:=fun h=>by
 have:=itoa_signs n 59 h
 have e:(59:UInt8).toNat=59:=rfl
 omega
theorem sym_semi (s:ByteArray) (h:xm_ s=true):(59:UInt8)∉bl s:=by
 intro hm;obtain ⟨i,hi,e⟩:=List.getElem_of_mem hm;unfold xm_ at h
 repeat' split at h
 all_goals try (exact absurd h (by decide))
 unfold symFrom at h
 rw [List.drop_zero,List.all_eq_true] at h;have hi2:i<s.size:=by unfold bl at hi;simpa using hi
 have h2:=h i (List.mem_range.2 hi2);have hb:bt s (i:Int)=((s[i]'hi2).toNat:Int):=(bt_at s i (by simpa using hi2)).symm
 have e2:(s[i]'hi2)=59:=by
  show s.data[i]'hi2=59;rw [←e];exact (Array.getElem_toList ..).symm
 rw [hb,e2] at h2;exact absurd h2 (by decide)
theorem nil_of_empty {s:ByteArray} (h:s.toList.isEmpty=true):s=⟨#[]⟩:=by
 refine bl_inj ?_;rw [List.isEmpty_iff,ByteArray.toList_eq] at h;exact h
def gVal (v:S80):Prop:=(v.f0=0∧v.f2=⟨#[]⟩)∨(v.f0=1∧v.f1=0∧xm_ v.f2=true)
theorem gVal_of {v:S80} (h:goodValueB v=true):gVal v:=by
 rw [goodValueB_def] at h;by_cases c:v.f0=0
 ·rw [if_pos c] at h;exact .inl ⟨c,nil_of_empty h⟩
 ·rw [if_neg c] at h;by_cases c1:v.f0=1
  ·rw [if_pos c1] at h;by_cases c2:v.f1=0
   ·rw [if_pos c2] at h;exact .inr ⟨c1,c2,h⟩
   ·rw [if_neg c2] at h;cases h
  ·rw [if_neg c1] at h;cases h
theorem val_semi {v:S80} (h:gVal v):(59:UInt8)∉bl (valT v):=by
 unfold valT
 rcases h with ⟨h0,h2⟩|⟨h0,h1,h2⟩
 ·rw [if_neg (by omega),bl_itoa];exact semi_out _
 ·rw [if_pos h0];exact sym_semi _ h2
theorem val_inj {v u:S80} (hv:gVal v) (hu:gVal u) (h0:v.f0=u.f0) (h:bl (valT v)=bl (valT u)):v=u:=by
 obtain ⟨a0,a1,a2⟩:=v;obtain ⟨b0,b1,b2⟩:=u;dsimp only at h0
 subst h0;unfold valT at h
 rcases hv with ⟨e0,e2⟩|⟨e0,e1,e2⟩<;>rcases hu with ⟨f0,f2⟩|⟨f0,f1,f2⟩<;>dsimp only at e0 f0
 ·rw [if_neg (by dsimp only;omega),if_neg (by dsimp only;omega),bl_itoa,bl_itoa] at h;dsimp only at e2 f2
  have g:a1=b1:=itoa_inj h
  rw [e2,f2,g]
 ·omega
 ·omega
 ·rw [if_pos e0,if_pos e0] at h;dsimp only at e1 f1
  have g:a2=b2:=bl_inj h
  rw [e1,f1,g]
theorem tst_inj {t s:S82} {x y:List UInt8} (ht:gVal t.f3) (hs:gVal s.f3) (h:bl (numsT (tstI t))++(bl (valQ t)++x)=bl (numsT (tstI s))++(bl (valQ s)++y)):t=s∧x=y:=by
 have e:∀(p:S82) (z:List UInt8),bl (numsT (tstI p))++(bl (valQ p)++z)=itoa p.f0++(44:UInt8)::(itoa p.f1++(44:UInt8)::(itoa p.f2++(44:UInt8)::(itoa p.f3.f0++(44:UInt8)::(bl (valT p.f3)++(59:UInt8)::z)))):=by
  intro p z;have e1:numsT (tstI p)=numT p.f0++(numT p.f1++(numT p.f2++(numT p.f3.f0++(⟨#[]⟩:ByteArray)))):=rfl
  have e2:bl (valQ p)++z=bl (valT p.f3)++(59:UInt8)::z:=by
   unfold valQ
   rw [bl_app,List.append_assoc];rfl
  have e3:bl (⟨#[]⟩:ByteArray)=[]:=rfl
  rw [e1,e2,bl_app,bl_app,bl_app,bl_app,e3,List.append_nil];simp only [List.append_assoc];rw [bl_num,bl_num,bl_num,bl_num]
 rw [e,e] at h;obtain ⟨h0,h⟩:=cut_inj (comma_out _) (comma_out _) h;obtain ⟨h1,h⟩:=cut_inj (comma_out _) (comma_out _) h;obtain ⟨h2,h⟩:=cut_inj (comma_out _) (comma_out _) h;obtain ⟨h3,h⟩:=cut_inj (comma_out _) (comma_out _) h;obtain ⟨h4,hxy⟩:=cut_inj (val_semi ht) (val_semi hs) h;have hv:=val_inj ht hs (itoa_inj h3) h4;have g0:t.f0=s.f0:=itoa_inj h0
 have g1:t.f1=s.f1:=itoa_inj h1
 have g2:t.f2=s.f2:=itoa_inj h2
 clear h0 h1 h2 h3 h4 e ht hs;obtain ⟨a0,a1,a2,a3⟩:=t;obtain ⟨b0,b1,b2,b3⟩:=s;dsimp only at g0 g1 g2 hv
 subst g0;subst g1;subst g2;subst hv;exact ⟨rfl,hxy⟩
theorem key_inj:∀(a b:List S82),(∀t,t∈a→gVal t.f3)→(∀t,t∈b→gVal t.f3)→bl (keyT a)=bl (keyT b)→a=b
 | [],[],_,_,_=>rfl
 | [],s::ss,_,_,h=>by
  exfalso
  have h2:=congrArg List.length h;unfold keyT at h2
  rw [bl_app,bl_app] at h2;have e1:numsT (tstI s)=numT s.f0++(numT s.f1++(numT s.f2++(numT s.f3.f0++(⟨#[]⟩:ByteArray)))):=rfl
  rw [e1,bl_app] at h2;have e2:=congrArg List.length (bl_num s.f0 []);simp only [List.length_append,List.length_cons,List.length_nil] at h2 e2;have e3:(bl (⟨#[]⟩:ByteArray)).length=0:=rfl
  omega
 | t::ts,[],_,_,h=>by
  exfalso
  have h2:=congrArg List.length h;unfold keyT at h2
  rw [bl_app,bl_app] at h2;have e1:numsT (tstI t)=numT t.f0++(numT t.f1++(numT t.f2++(numT t.f3.f0++(⟨#[]⟩:ByteArray)))):=rfl
  rw [e1,bl_app] at h2;have e2:=congrArg List.length (bl_num t.f0 []);simp only [List.length_append,List.length_cons,List.length_nil] at h2 e2;have e3:(bl (⟨#[]⟩:ByteArray)).length=0:=rfl
  omega
 | t::ts,s::ss,ha,hb,h=>by
  have et:∀(p:S82) (ps:List S82),bl (keyT (p::ps))=bl (numsT (tstI p))++(bl (valQ p)++bl (keyT ps)):=by
   intro p ps;show bl (numsT (tstI p)++(valQ p++keyT ps))=_;rw [bl_app,bl_app]
  rw [et,et] at h;obtain ⟨h1,h2⟩:=tst_inj (ha t List.mem_cons_self) (hb s List.mem_cons_self) h;rw [h1,key_inj ts ss (fun x hx=>ha x (List.mem_cons_of_mem _ hx)) (fun x hx=>hb x (List.mem_cons_of_mem _ hx)) h2]
end Go.Proofs.YtahambloheoebaaGreatDoor.Pure
namespace Go.Proofs.YtahambloheoebaaGreatDoor.Pure
open Go.RowKit Go.Proofs.YtahambloheoebaaGreatDoor.P Go.Proofs.YtahambloheoebaaGreatDoorW.PrintWords Go.Proofs.YtahambloheoebaaGreatDoorW.PrintLast Go.Proofs.YtahambloheoebaaGreatDoorX
theorem rdt_ (l:List S82) (i:Nat) (h:i<l.length):zb_ l (i:Int)=l[i]:=by unfold zb_;simp [h]
theorem tl_inj {s t:ByteArray} (h:s.toList=t.toList):s=t:=by
 rw [ByteArray.toList_eq,ByteArray.toList_eq] at h;exact bl_inj h
theorem tst_eq (t s:S82):((!(t.f0==s.f0) || (!(t.f1==s.f1) || (!(t.f2==s.f2) || (!(t.f3.f0==s.f3.f0) || (!(t.f3.f1==s.f3.f1) || (!(t.f3.f2.toList==s.f3.f2.toList)))))))=true)↔t≠s:=by
 constructor
 ·rintro h rfl;simp at h
 ·intro h;by_cases c:(!(t.f0==s.f0) || (!(t.f1==s.f1) || (!(t.f2==s.f2) || (!(t.f3.f0==s.f3.f0) || (!(t.f3.f1==s.f3.f1) || (!(t.f3.f2.toList==s.f3.f2.toList)))))))=true
  ·exact c
  ·exfalso
   apply h
   obtain ⟨a0,a1,a2,⟨a3,a4,a5⟩⟩:=t;obtain ⟨b0,b1,b2,⟨b3,b4,b5⟩⟩:=s;simp only [Bool.or_eq_true,Bool.not_eq_true',beq_eq_false_iff_ne,ne_eq,not_or,Decidable.not_not] at c;obtain ⟨rfl,rfl,rfl,rfl,rfl,h5⟩:=c;rw [tl_inj h5]
theorem same_loop (c1 c2:ByteArray) (n1 n2:Int) (a b:List S82) (hl:a.length=b.length) (hs:a.length≤4611686018427387904):
  ∀i,i≤a.length→∃r:Bool,Ev (fun k=>y2_.l0 k (a.length:Int) (i:Int) c1 n1 a c2 n2 b) r∧(r=true↔a.drop i=b.drop i):=by
 refine up_ind ?_ ?_
 ·refine ⟨true,?_,?_⟩
  ·refine Ev.step (fun k=>by simp only [y2_.l0];exact rfl) ?_;exact Ev.ifF (by omega) (Ev.now _)
  ·rw [List.drop_length,hl,List.drop_length];simp
 ·rintro i hi ⟨r,h1,h2⟩;have e1:=rdt_ a i hi;have e2:=rdt_ b i (by omega);by_cases c:a[i]=b[i]'(by omega)
  ·refine ⟨r,?_,?_⟩
   ·refine Ev.step (fun k=>by simp only [y2_.l0];exact rfl) ?_;refine Ev.ifT (by omega) (Ev.ifT (by omega) (Ev.ifT (by omega) (Ev.ifT (by omega) (Ev.ifF ?_ ?_))))
    ·intro h;rw [e1,e2] at h;exact (tst_eq _ _).1 (by simpa [Bool.or_assoc] using h) c
    ·rw [x7_ hi (by omega)];exact h1
   ·rw [List.drop_eq_getElem_cons hi,List.drop_eq_getElem_cons (by omega:i<b.length),h2];constructor
    ·intro h;rw [c,h]
    ·intro h;exact (List.cons.inj h).2
  ·refine ⟨false,?_,?_⟩
   ·refine Ev.step (fun k=>by simp only [y2_.l0];exact rfl) ?_;refine Ev.ifT (by omega) (Ev.ifT (by omega) (Ev.ifT (by omega) (Ev.ifT (by omega) (Ev.ifT ?_ (Ev.now _)))));rw [e1,e2];have:=(tst_eq _ _).2 c
    simpa [Bool.or_assoc] using this
   ·constructor
    ·intro h;cases h
    ·intro h;rw [List.drop_eq_getElem_cons hi,List.drop_eq_getElem_cons (by omega:i<b.length)] at h;exact absurd (List.cons.inj h).1 c
theorem same_some (a b:S50) (hs:a.f2.length≤4611686018427387904):∃r:Bool,Ev (fun k=>y2_.f k a.f0 a.f1 a.f2 b.f0 b.f1 b.f2) r∧(r=true↔a=b):=by
 have no:∀(P:Prop),(P→False)→∀(x:Bool),x=true→∃r:Bool,Ev (fun k=>y2_.j0 k x a.f0 a.f1 a.f2 b.f0 b.f1 b.f2) r∧(r=true↔P):=by
  intro P hP x hx;refine ⟨false,Ev.step (fun k=>by simp only [y2_.j0];exact rfl) (Ev.ifT hx (Ev.now _)),?_⟩;constructor
  ·intro h;cases h
  ·intro h;exact (hP h).elim
 by_cases c0:a.f0.toList=b.f0.toList
 ·by_cases c1:a.f1=b.f1
  ·by_cases c2:a.f2.length=b.f2.length
   ·obtain ⟨r,h1,h2⟩:=same_loop a.f0 b.f0 a.f1 b.f1 a.f2 b.f2 c2 hs 0 (Nat.zero_le _);refine ⟨r,?_,?_⟩
    ·refine Ev.congr (fun k=>by unfold y2_.f;exact rfl) (Ev.ifT c0 (Ev.ifT c1 ?_));refine Ev.step (fun k=>by simp only [y2_.j0];exact rfl) (Ev.ifF (by rw [c2];simp) h1)
    ·rw [h2,List.drop_zero,List.drop_zero];obtain ⟨x0,x1,x2⟩:=a;obtain ⟨y0,y1,y2⟩:=b;constructor
     ·intro h;rw [show x0=y0 from tl_inj c0,show x1=y1 from c1,show x2=y2 from h]
     ·intro h;injection h
   ·obtain ⟨r,h1,h2⟩:=no (a=b) (fun h=>c2 (by rw [h])) ((a.f2.length:Int) != (b.f2.length:Int)) (by simp;omega);exact ⟨r,Ev.congr (fun k=>by unfold y2_.f;exact rfl) (Ev.ifT c0 (Ev.ifT c1 h1)),h2⟩
  ·obtain ⟨r,h1,h2⟩:=no (a=b) (fun h=>c1 (by rw [h])) true rfl;exact ⟨r,Ev.congr (fun k=>by unfold y2_.f;exact rfl) (Ev.ifT c0 (Ev.ifF c1 h1)),h2⟩
 ·obtain ⟨r,h1,h2⟩:=no (a=b) (fun h=>c0 (by rw [h])) true rfl;exact ⟨r,Ev.congr (fun k=>by unfold y2_.f;exact rfl) (Ev.ifF c0 h1),h2⟩
def earlB (ts:List S86) (name:ByteArray):Nat→Nat→Option Int
 | _,0=>none
 | i,n+1=>if (z6_ ts (i:Int)).f0=2∧(z6_ ts (i:Int)).f2.toList=name.toList then some (i:Int) else earlB ts name (i+1) n
theorem earlB_nonneg (ts:List S86) (name:ByteArray):∀n i x,earlB ts name i n=some x→0≤x
 | 0,i,x,h=>by cases h
 | n+1,i,x,h=>by
  unfold earlB at h
  split at h
  ·injection h with h;omega
  ·exact earlB_nonneg ts name n (i+1) x h
theorem earlB_snoc (ts:List S86) (name:ByteArray):∀n i,earlB ts name i (n+1)=match earlB ts name i n with
  | some x=>some x
  | none=>if (z6_ ts ((i+n:Nat):Int)).f0=2∧(z6_ ts ((i+n:Nat):Int)).f2.toList=name.toList then some ((i+n:Nat):Int) else none
 | 0,i=>by simp [earlB]
 | n+1,i=>by
  rw [earlB,earlB_snoc ts name n (i+1)];conv=>rhs;rw [earlB]
  by_cases h:(z6_ ts (i:Int)).f0=2∧(z6_ ts (i:Int)).f2.toList=name.toList
  ·rw [if_pos h,if_pos h]
  ·rw [if_neg h,if_neg h];rw [show i+1+n=i+(n+1) by omega]
theorem l3Earlier_loop (neg:Bool) (cls:ByteArray) (ts:List S86) (name:ByteArray) (hl:ts.length≤9223372036854775807) (m:Nat) (hm:m≤ts.length):∀n i,i+n=m→Ev (fun k=>yg_.l0 k (m:Int) name (i:Int) neg cls ts) ((earlB ts name i n).getD (-1))
 | 0,i,h=>by
  refine Ev.step (fun k=>by simp only [yg_.l0];exact rfl) ?_;exact Ev.ifF (by omega) (Ev.now _)
 | n+1,i,h=>by
  have ih:=l3Earlier_loop neg cls ts name hl m hm n (i+1) (by omega);refine Ev.step (fun k=>by simp only [yg_.l0,x7_ (show i<ts.length by omega) hl];exact rfl) ?_;refine Ev.ifT (by omega) ?_;refine Ev.ifT (by omega) ?_;refine Ev.ifT (by omega) ?_;unfold earlB
  refine Ev.ite (fun c=>?_) (fun c=>?_)
  ·refine Ev.ite (fun c1=>?_) (fun c1=>?_)
   ·rw [if_pos ⟨c,c1⟩];exact Ev.now _
   ·rw [if_neg (fun h=>c1 h.2)];exact ih
  ·rw [if_neg (fun h=>c h.1)];exact ih
theorem look_earl (ts:List S86):∀n (name:ByteArray),name.toList.isEmpty=false→(∀i,i<n→ym_ (z6_ ts ((i:Nat):Int))=true)→lookS (w7_ ts n).1 name=earlB ts name 0 n
 | 0,name,_,_=>rfl
 | n+1,name,hne,hg=>by
  have ih:=look_earl ts n name hne (fun i hi=>hg i (by omega));have hgn:=hg n (by omega);rw [earlB_snoc,Nat.zero_add];simp only [w7_,aoStep];generalize z6_ ts ((n:Nat):Int)=t at *;by_cases c0:t.f0=0
  ·rw [if_pos c0,ih,if_neg (by rw [c0];intro h;exact absurd h.1 (by decide))];cases earlB ts name 0 n<;>rfl
  rw [if_neg c0];by_cases c1:t.f2.toList.isEmpty=true
  ·rw [if_pos c1];dsimp only
   rw [ih,if_neg (by
    intro h;rw [h.2,hne] at c1;cases c1)]
   cases earlB ts name 0 n<;>rfl
  rw [if_neg c1];by_cases c2:(lookS (w7_ ts n).1 t.f2).isSome=true
  ·rw [if_pos c2];dsimp only
   rw [ih];cases he:earlB ts name 0 n with
   | some x=>rfl
   | none=>
    rw [if_neg];rintro ⟨_,h⟩
    have:t.f2=name:=by
     rw [ByteArray.toList_eq,ByteArray.toList_eq] at h;cases ht:t.f2 with|mk a=>
     cases hn:name with|mk b=>
     rw [ht,hn] at h;exact congrArg ByteArray.mk (Array.toList_inj.1 h)
    rw [this,ih,he] at c2;cases c2
  rw [if_neg c2];by_cases c3:t.f0=2
  ·rw [if_pos c3];dsimp only
   rw [lookS];by_cases c4:t.f2=name
   ·rw [if_pos c4,if_pos ⟨c3,by rw [c4]⟩];rw [c4,ih] at c2;cases he:earlB ts name 0 n with
    | some x=>rw [he] at c2;exact absurd rfl c2
    | none=>rfl
   ·rw [if_neg c4,ih,if_neg]
    ·cases earlB ts name 0 n<;>rfl
    ·rintro ⟨_,h⟩;apply c4
     rw [ByteArray.toList_eq,ByteArray.toList_eq] at h;cases ht:t.f2 with|mk a=>
     cases hn:name with|mk b=>
     rw [ht,hn] at h;exact congrArg ByteArray.mk (Array.toList_inj.1 h)
  ·rw [if_neg c3,ih,if_neg (fun h=>c3 h.1)];cases earlB ts name 0 n<;>rfl
theorem goodTerm_var_zero (t:S86) (h:ym_ t=true) (hv:t.f2.toList.isEmpty=false):t.f3=⟨0,0,⟨#[]⟩⟩:=by
 have hz:∀v:S80,zeroValB v=true→v=⟨0,0,⟨#[]⟩⟩:=by
  intro v hv;obtain ⟨a,b,c⟩:=v;unfold zeroValB at hv
  simp only [Bool.and_eq_true,beq_iff_eq] at hv;obtain ⟨h1,h2,h3⟩:=hv;rw [←xh_,ByteArray.toList_eq] at h3;cases c with|mk d=>
  have:d=#[]:=Array.toList_inj.1 h3
  rw [h1,h2,this]
 unfold ym_ at h
 rw [hv] at h;split at h
 ·simp at h
 split at h
 ·simp at h
 split at h
 ·simp only [Bool.and_eq_true] at h;exact hz _ h.1.2
 split at h
 ·split at h
  ·cases h
  split at h
  ·cases h
  rw [if_neg (by simp)] at h;simp only [Bool.and_eq_true] at h;exact hz _ h.2
 ·cases h
theorem specAlphaOf_loop (neg:Bool) (cls:ByteArray) (ts:List S86) (hl:ts.length≤6) (hg:∀i,i<ts.length→ym_ (z6_ ts ((i:Nat):Int))=true) (c:ByteArray) (ar:Int):
  ∀i,i≤ts.length→Ev (fun k=>zy_.l0 k ts (ts.length:Int) (i:Int) neg cls ts c ar (w7_ ts i).2) (c,ar,(w7_ ts ts.length).2):=by
 refine up_ind ?_ ?_
 ·refine Ev.step (fun k=>by simp only [zy_.l0];exact rfl) ?_;exact Ev.ifF (by omega) (Ev.now _)
 ·intro i hi ih;have hgi:=hg i hi;have hlen:=aoRun_length ts i;have hlk:=fun name hn=>look_earl ts i name hn (fun j hj=>hg j (by omega))
  have hear:=fun name=>l3Earlier_loop neg cls ts name (by omega) i (by omega) i 0 (by omega)
  simp only [w7_,aoStep] at ih;have hw:=x7_ hi (show ts.length≤9223372036854775807 by omega)
  have hj:∀op:Int,op=(if (z6_ ts (i:Int)).f0=3 then (z6_ ts (i:Int)).f1 else 1)→
    Ev (fun k=>zy_.j1 k (i:Int) ts (ts.length:Int) (i:Int) neg cls ts c ar (w7_ ts i).2 (z6_ ts (i:Int)).f0 (z6_ ts (i:Int)).f1 (z6_ ts (i:Int)).f2 (z6_ ts (i:Int)).f3.f0 (z6_ ts (i:Int)).f3.f1 (z6_ ts (i:Int)).f3.f2 (i:Int) op (-1) (z6_ ts (i:Int)).f3.f0 (z6_ ts (i:Int)).f3.f1 (z6_ ts (i:Int)).f3.f2) (c,ar,(w7_ ts ts.length).2):=by
   intro op hop;rw [←hop] at ih;generalize z6_ ts (i:Int)=t at *;refine Ev.step (fun k=>by simp only [zy_.j1,hw];exact rfl) ?_;refine Ev.ite (fun c0=>?_) (fun c0=>?_)
   ·rw [if_pos c0] at ih;exact ih
   rw [if_neg c0] at ih;refine Ev.ite (fun c1=>?_) (fun c1=>?_)
   ·rw [xh_] at c1;rw [if_pos c1] at ih;refine Ev.ifT (by omega) ?_;exact ih
   rw [xh_] at c1;rw [if_neg c1] at ih;rw [Bool.not_eq_true] at c1;have hv:=goodTerm_var_zero t hgi c1;rw [hlk _ c1] at ih;have he:=hear t.f2;have hnn:=earlB_nonneg ts t.f2 i 0;refine Ev.bind (f:=fun k t333=>_) he ?_;cases hx:earlB ts t.f2 0 i with
   | some x=>
    have:=hnn x hx
    rw [hx] at ih;simp only [Option.isSome_some,if_true,Option.getD_some] at ih;simp only [Option.getD_some];refine Ev.ifF (by omega) ?_;refine Ev.ifT (by omega) ?_;rw [hv];exact ih
   | none=>
    rw [hx] at ih;simp only [Option.getD_none];refine Ev.ifT (by omega) ?_;simp only [Option.isSome_none] at ih;rw [if_neg (by simp)] at ih;split at ih<;>exact ih
  refine Ev.step (fun k=>by simp only [zy_.l0];exact rfl) ?_;refine Ev.ifT (by omega) ?_;refine Ev.ifT (by omega) ?_;refine Ev.ifT (by omega) ?_;refine Ev.ite (fun c=>?_) (fun c=>?_)
  ·exact hj _ (by rw [if_pos c])
  ·exact hj _ (by rw [if_neg c])
theorem specAlphaOf_some (neg:Bool) (cls:ByteArray) (ts:List S86):∃r,impl_AlphaOf.f neg cls ts=some r∧r.2.2.length≤6∧Ev (fun k=>zy_.f k neg cls ts) r:=by
 refine ⟨_,rfl,?_,?_⟩
 ·split
  ·rename_i h
   have:=aoRun_length ts ts.length
   unfold wo_ at h
   simp only [Bool.and_eq_true,decide_eq_true_eq] at h;dsimp only
   omega
  ·simp
 ·refine Ev.congr (fun k=>by unfold zy_.f;exact rfl) ?_;refine Ev.bind (l2GoodPat_some neg cls ts) ?_;refine Ev.ite (fun c=>?_) (fun c=>?_)
  ·rw [if_pos c];unfold wo_ at c
   simp only [Bool.and_eq_true,decide_eq_true_eq,List.all_eq_true] at c;obtain ⟨_,h6,hg⟩:=c
   exact specAlphaOf_loop neg cls ts h6 (fun i hi=>by
    have e:z6_ ts (i:Int)=ts[i]:=by
     unfold z6_
     simp [hi]
    rw [e];exact hg _ (List.getElem_mem hi)) cls (ts.length:Int) 0 (Nat.zero_le _)
  ·rw [if_neg c];exact Ev.now _
theorem rdl_ (l:List S50) (i:Nat) (h:i<l.length):xg_ l (i:Int)=l[i]:=by unfold xg_;simp [h]
theorem rdq_ (l:List S42) (i:Nat) (h:i<l.length):zq_ l (i:Int)=l[i]:=by unfold zq_;simp [h]
theorem rdR_ (l:List S39) (i:Nat) (h:i<l.length):z9_ l (i:Int)=l[i]:=by unfold z9_;simp [h]
noncomputable def lastN (al:List S50) (a:S50):Nat→Option Int
 | 0=>none
 | n+1=>open Classical in if xg_ al (n:Int)=a then some (n:Int) else lastN al a n
theorem lastN_lt (al:List S50) (a:S50):∀n x,lastN al a n=some x→0≤x∧x<n
 | 0,x,h=>by cases h
 | n+1,x,h=>by
  unfold lastN at h
  split at h
  ·cases h;omega
  ·have:=lastN_lt al a n x h;omega
def alO (p:S42):S50:=let r:=(impl_AlphaOf.f p.f0 p.f1 p.f2).getD (⟨#[]⟩,0,[]);⟨r.1,r.2.1,r.2.2⟩
theorem alO_some (p:S42):impl_AlphaOf.f p.f0 p.f1 p.f2=some ((alO p).f0,(alO p).f1,(alO p).f2):=by
 obtain ⟨r,h,_,_⟩:=specAlphaOf_some p.f0 p.f1 p.f2;unfold alO
 rw [h];rfl
theorem alO_spec (p:S42):Ev (fun k=>zy_.f k p.f0 p.f1 p.f2) ((alO p).f0,(alO p).f1,(alO p).f2):=by
 obtain ⟨r,h,_,h2⟩:=specAlphaOf_some p.f0 p.f1 p.f2;have e:=alO_some p;rw [h] at e;rw [←Option.some.inj e];exact h2
theorem alO_len (p:S42):(alO p).f2.length≤6:=by
 obtain ⟨r,h,h2,_⟩:=specAlphaOf_some p.f0 p.f1 p.f2;have e:=alO_some p;rw [h] at e;rw [Option.some.inj e] at h2;exact h2
noncomputable def addP (st:List S50×List Int) (a:S50):List S50×List Int:=
 match lastN st.1 a st.1.length with
 | some j=>(st.1,st.2++[j])
 | none=>(st.1++[a],st.2++[(st.1.length:Int)])
noncomputable def runP:List S42→List S50×List Int→List S50×List Int
 | [],st=>st
 | p::ps,st=>runP ps (addP st (alO p))
noncomputable def runR:List S39→List S50×List (List Int)→List S50×List (List Int)
 | [],st=>st
 | r::rs,st=>runR rs ((runP r.f2 (st.1,[])).1,st.2++[(runP r.f2 (st.1,[])).2])
theorem addP_len (st:List S50×List Int) (a:S50):(addP st a).1.length≤st.1.length+1∧(addP st a).2.length=st.2.length+1:=by
 unfold addP
 split<;>simp
theorem addP_mem (st:List S50×List Int) (a:S50):∀x,x∈(addP st a).1→x∈st.1∨x=a:=by
 intro x hx;unfold addP at hx
 split at hx
 ·exact .inl hx
 ·rcases List.mem_append.1 hx with h|h
  ·exact .inl h
  ·exact .inr (List.mem_singleton.1 h)
theorem specNet_l2 (R:List S39) (ps:List S42) (j i:Nat) (al:List S50) (of:List Int) (Of:List (List Int)) (a:S50) (hi:i<ps.length) (hp:ps.length≤4611686018427387904)
  (hal:al.length<2932031007402) (hof:of.length<17592186044416) (hs:∀x,x∈al→x.f2.length≤6) (r:List S50×List (List Int))
  (h:Ev (fun k=>zj_.l1 k (addP (al,of) a).2 R (R.length:Int) (j:Int) ps (ps.length:Int) ((i+1:Nat):Int) (addP (al,of) a).1 Of) r):
  ∀n,n≤al.length→Ev (fun k=>zj_.l2 k of ((lastN al a n).getD (-1)) R (R.length:Int) (j:Int) ps (ps.length:Int) (i:Int) (al.length:Int) (n:Int) al Of a.f0 a.f1 a.f2) r:=by
 refine up_ind ?_ ?_
 ·refine Ev.step (fun k=>by simp only [zj_.l2];exact rfl) ?_;refine Ev.ifF (by omega) ?_;unfold addP at h
  dsimp only at h
  rw [x7_ hi (by omega)];cases e:lastN al a al.length with
  | none=>
   rw [e] at h;exact Ev.ifT (by decide) (Ev.ifT hal (Ev.ifT hof h))
  | some x=>
   rw [e] at h;have:=(lastN_lt al a _ x e).1
   exact Ev.ifF (by show ¬x<0;omega) (Ev.ifT hof h)
 ·intro n hn ih;refine Ev.step (fun k=>by simp only [zj_.l2];exact rfl) ?_;refine Ev.ifT (by omega) (Ev.ifT (by omega) (Ev.ifT (by omega) ?_))
  obtain ⟨s,h1,h2⟩:=same_some (xg_ al (n:Int)) a (by
   have:=hs _ (List.getElem_mem hn)
   rw [rdl_ al n hn];omega)
  refine Ev.bind h1 ?_;rw [x7_ hn (by omega)]
  have e:lastN al a (n+1)=if s=true then some (n:Int) else lastN al a n:=by
   simp only [lastN];by_cases c:xg_ al (n:Int)=a
   ·rw [if_pos c,if_pos (h2.2 c)]
   ·rw [if_neg c,if_neg (fun hc=>c (h2.1 hc))]
  rw [e] at ih;refine Ev.ite (fun c=>?_) (fun c=>?_)
  ·rw [if_pos c] at ih;exact ih
  ·rw [if_neg c] at ih;exact ih
theorem specNet_l1 (R:List S39) (ps:List S42) (j:Nat) (hj:j<R.length) (hR:R.length≤1048576) (Of:List (List Int)) (hp:ps.length≤1048576) (hOf:Of.length<1048576+1) (M:Nat) (hM:M≤1048576*1048577) (r:List S50×List (List Int)):
  ∀i,i≤ps.length→∀(al:List S50) (of:List Int),al.length≤M+i→of.length=i→(∀x,x∈al→x.f2.length≤6)→
   Ev (fun k=>zj_.l0 k R (R.length:Int) ((j+1:Nat):Int) (runP (ps.drop i) (al,of)).1 (Of++[(runP (ps.drop i) (al,of)).2])) r→
   Ev (fun k=>zj_.l1 k of R (R.length:Int) (j:Int) ps (ps.length:Int) (i:Int) al Of) r:=by
 refine up_ind ?_ ?_
 ·intro al of _ _ _ h;rw [List.drop_length] at h;refine Ev.step (fun k=>by simp only [zj_.l1];exact rfl) ?_;refine Ev.ifF (by omega) (Ev.ifT (by omega) ?_);rw [x7_ hj (by omega)];exact h
 ·intro i hi ih al of h1 h2 h3 h;refine Ev.step (fun k=>by simp only [zj_.l1];exact rfl) ?_;refine Ev.ifT (by omega) (Ev.ifT (by omega) (Ev.ifT (by omega) ?_));rw [List.drop_eq_getElem_cons hi] at h;have e:zq_ ps (i:Int)=ps[i]:=rdq_ ps i hi
  refine Ev.bind (a:=((alO ps[i]).f0,(alO ps[i]).f1,(alO ps[i]).f2)) (by rw [e];exact alO_spec _) ?_;have l1:=addP_len (al,of) (alO ps[i]);refine specNet_l2 R ps j i al of Of (alO ps[i]) hi (by omega) (by omega) (by omega) h3 r ?_ 0 (Nat.zero_le _);refine ih _ _ (by have:=l1.1;dsimp only at this;omega) (by have:=l1.2;dsimp only at this;omega) ?_ h;intro x hx;rcases addP_mem _ _ x hx with g|g
  ·exact h3 x g
  ·rw [g];exact alO_len _
def akOf (a:S50):AK:=(a.f0,a.f1,keyT a.f2)
def mOf (al:List S50):Nat→List (AK×Int)
 | 0=>[]
 | n+1=>(akOf (xg_ al (n:Int)),(n:Int))::mOf al n
theorem mOf_length (al:List S50):∀n,(mOf al n).length=n
 | 0=>rfl
 | n+1=>by unfold mOf;rw [List.length_cons,mOf_length al n]
def GA (a:S50):Prop:=(∀t,t∈a.f2→gVal t.f3∧okTst t)∧a.f2.length≤6∧a.f0.size≤maxLen∧I64 a.f1
theorem ak_inj {a b:S50} (ha:GA a) (hb:GA b) (h:akOf a=akOf b):a=b:=by
 unfold akOf at h
 injection h with h0 h
 injection h with h1 h2
 have h3:=key_inj a.f2 b.f2 (fun t ht=>(ha.1 t ht).1) (fun t ht=>(hb.1 t ht).1) (by rw [h2]);obtain ⟨x0,x1,x2⟩:=a;obtain ⟨y0,y1,y2⟩:=b;dsimp only at h0 h1 h3
 rw [h0,h1,h3]
theorem look_mOf (al:List S50) (a:S50) (ha:GA a):∀n,(∀i:Nat,i<n→GA (xg_ al (i:Int)))→lookA (mOf al n) (akOf a)=lastN al a n
 | 0,_=>rfl
 | n+1,h=>by
  have ih:=look_mOf al a ha n (fun i hi=>h i (by omega));simp only [mOf,lookA,lastN];by_cases c:xg_ al (n:Int)=a
  ·rw [if_pos c,if_pos (by rw [c])]
  ·rw [if_neg c,if_neg (fun hc=>c (ak_inj (h n (by omega)) ha hc)),ih]
theorem mOf_snoc (al:List S50) (a:S50):∀n,n≤al.length→mOf (al++[a]) n=mOf al n
 | 0,_=>rfl
 | n+1,h=>by
  have ih:=mOf_snoc al a n (by omega);simp only [mOf];rw [ih,rdl_ _ n (by simp;omega),rdl_ al n (by omega),List.getElem_append_left (by omega)]
theorem mOf_new (al:List S50) (a:S50):mOf (al++[a]) (al.length+1)=(akOf a,(al.length:Int))::mOf al al.length:=by
 simp only [mOf];rw [mOf_snoc al a _ (Nat.le_refl _),rdl_ _ al.length (by simp)];simp
theorem numT_size (n:Int) (h:I64 n):(numT n).size≤22:=by
 have:=itoaB_size n h
 unfold numT
 rw [ByteArray.size_append];have e:(⟨#[44]⟩:ByteArray).size=1:=rfl
 omega
theorem gVal_size {v:S80} (h:gVal v):v.f2.size≤20:=by
 rcases h with ⟨_,h⟩|⟨_,_,h⟩
 ·rw [h];exact Nat.zero_le _
 ·unfold xm_ at h
  split at h
  ·cases h
  split at h
  ·cases h
  omega
theorem tst_size (t:S82) (hg:gVal t.f3) (h:okTst t):(numsT (tstI t)).size+(valQ t).size≤200:=by
 have e1:numsT (tstI t)=numT t.f0++(numT t.f1++(numT t.f2++(numT t.f3.f0++(⟨#[]⟩:ByteArray)))):=rfl
 have h0:=numT_size _ h.1.1;have h1:=numT_size _ h.1.2.1;have h2:=numT_size _ h.1.2.2.1;have h3:=numT_size _ h.1.2.2.2;have h4:=valT_size t.f3 h.2.1;have h5:=gVal_size hg;have e2:(⟨#[]⟩:ByteArray).size=0:=rfl
 have e3:(⟨#[59]⟩:ByteArray).size=1:=rfl
 rw [e1];unfold valQ
 simp only [ByteArray.size_append];omega
theorem key_size:∀l:List S82,(∀t,t∈l→gVal t.f3∧okTst t)→(keyT l).size≤200 * l.length
 | [],_=>Nat.zero_le _
 | t::ts,h=>by
  have ih:=key_size ts (fun x hx=>h x (List.mem_cons_of_mem _ hx));obtain ⟨h1,h2⟩:=h t List.mem_cons_self;have:=tst_size t h1 h2
  unfold keyT
  rw [ByteArray.size_append,ByteArray.size_append,List.length_cons];omega
theorem key_some {a:S50} (h:GA a) (k:Nat):wl_.f k a.f2=some (keyT a.f2)∧okAK (akOf a):=by
 have h1:=key_size a.f2 h.1;have h2:=h.2.1;constructor
 ·unfold wl_.f
  rw [if_pos ⟨fun t ht=>(h.1 t ht).2,by omega,by omega⟩]
 ·refine ⟨h.2.2.1,h.2.2.2,?_⟩;show (keyT a.f2).size≤maxLen;unfold maxLen;omega
theorem i64_of {x:Int} (h0 : -1000000≤x) (h1:x≤1000000):I64 x:=⟨by omega,by omega⟩
theorem aoRun_good (ts:List S86):∀n,n≤6→(∀i:Nat,i<n→ym_ (z6_ ts (i:Int))=true∧I64 (z6_ ts (i:Int)).f3.f1)→
  (∀t,t∈(w7_ ts n).2→gVal t.f3∧okTst t)∧(∀x,x∈(w7_ ts n).1→0≤x.2∧x.2<6)
 | 0,_,_=>⟨fun t h=>absurd h List.not_mem_nil,fun x h=>absurd h List.not_mem_nil⟩
 | n+1,hn,h=>by
  obtain ⟨i1,i2⟩:=aoRun_good ts n (by omega) (fun i hi=>h i (by omega));obtain ⟨hg,hI⟩:=h n (by omega);have hz:gVal (⟨0,0,⟨#[]⟩⟩:S80):=.inl ⟨rfl,rfl⟩
  have hl:∀(L:List (ByteArray×Int)),(∀x,x∈L→0≤x.2∧x.2<6)→∀s,0≤(lookS L s).getD 0∧(lookS L s).getD 0<6:=by
   intro L;induction L with
   | nil=>intro _ s;exact ⟨Int.le_refl _,by show (0:Int)<6;decide⟩
   | cons x L ih=>
    intro hL s;obtain ⟨x1,x2⟩:=x;unfold lookS
    split
    ·exact hL _ List.mem_cons_self
    ·exact ih (fun y hy=>hL y (List.mem_cons_of_mem _ hy)) s
  have hl:=hl _ i2;simp only [w7_,aoStep];generalize z6_ ts (n:Int)=t at hg hI ⊢
  have hop:t.f0≠0→I64 (if t.f0=3 then t.f1 else 1):=by
   intro _;split
   ·rename_i c3
    unfold ym_ at hg
    rw [if_neg (by omega),if_neg (by omega),if_neg (by omega),if_pos c3] at hg;split at hg
    ·cases hg
    split at hg
    ·cases hg
    constructor<;>omega
   ·exact ⟨by decide,by decide⟩
  split
  ·exact ⟨i1,i2⟩
  rename_i c0
  split
  ·rename_i ce
   refine ⟨?_,i2⟩;intro x hx;rcases List.mem_append.1 hx with g|g
   ·exact i1 x g
   ·rw [List.mem_singleton.1 g]
    have gv:gVal t.f3:=by
     unfold ym_ at hg
     rw [if_neg c0] at hg;split at hg
     ·simp only [Bool.and_eq_true] at hg;exact gVal_of hg.2
     split at hg
     ·simp only [Bool.and_eq_true] at hg;rw [goodSymB_nil _ ce] at hg;exact absurd hg.2 (by decide)
     split at hg
     ·split at hg
      ·cases hg
      split at hg
      ·cases hg
      first
      | exact gVal_of hg
      | (rw [if_pos ce] at hg;exact gVal_of hg)
     ·cases hg
    refine ⟨gv,⟨⟨i64_of (x:=(n:Int)) (by omega) (by omega),hop c0,i64_of (x:=-1) (by decide) (by decide),?_⟩,hI,?_⟩⟩
    ·rcases gv with ⟨h0,_⟩|⟨h0,_⟩<;>(show I64 t.f3.f0;rw [h0];exact ⟨by decide,by decide⟩)
    ·have:=gVal_size gv
     show t.f3.f2.size≤4611686018427387904;omega
  split
  ·refine ⟨?_,i2⟩;intro x hx;rcases List.mem_append.1 hx with g|g
   ·exact i1 x g
   ·rw [List.mem_singleton.1 g];have:=hl t.f2
    exact ⟨hz,⟨⟨i64_of (x:=(n:Int)) (by omega) (by omega),hop c0,i64_of (x:=(lookS (w7_ ts n).1 t.f2).getD 0) (by omega) (by omega),i64_of (x:=0) (by decide) (by decide)⟩,i64_of (x:=0) (by decide) (by decide),Nat.zero_le _⟩⟩
  split
  ·refine ⟨i1,?_⟩;intro x hx;rcases List.mem_cons.1 hx with g|g
   ·rw [g];dsimp only;omega
   ·exact i2 x g
  ·exact ⟨i1,i2⟩
theorem alO_good (p:S42) (hI:∀t,t∈p.f2→I64 t.f3.f1):GA (alO p):=by
 have e:alO p=if wo_ p.f1 p.f2=true then (⟨p.f1,(p.f2.length:Int),(w7_ p.f2 p.f2.length).2⟩:S50) else ⟨⟨#[]⟩,0,[]⟩:=by
  unfold alO impl_AlphaOf.f
  split<;>rfl
 rw [e];split
 ·rename_i h
  have hl:=alO_len p;rw [e,if_pos h] at hl;unfold wo_ goodClsB at h
  simp only [Bool.and_eq_true,decide_eq_true_eq,List.all_eq_true] at h;obtain ⟨⟨hc,_⟩,h6,hg⟩:=h;refine ⟨(aoRun_good p.f2 p.f2.length h6 (fun i hi=>?_)).1,hl,?_,i64_of (x:=(p.f2.length:Int)) (by omega) (by omega)⟩
  ·have e2:z6_ p.f2 (i:Int)=p.f2[i]:=by unfold z6_;simp [hi]
   rw [e2];exact ⟨hg _ (List.getElem_mem hi),hI _ (List.getElem_mem hi)⟩
  ·have:=gVal_size (v:=⟨1,0,p.f1⟩) (.inr ⟨rfl,rfl,hc⟩)
   show p.f1.size≤maxLen;unfold maxLen
   dsimp only at this
   omega
 ·exact ⟨fun t h=>absurd h List.not_mem_nil,Nat.zero_le _,Nat.zero_le _,i64_of (x:=0) (by decide) (by decide)⟩
theorem implNet_l1 (R:List S39) (ps:List S42) (j:Nat) (hj:j<R.length) (hR:R.length≤1048576) (Of:List (List Int)) (hp:ps.length≤1048576) (hOf:Of.length<1048576+1) (M:Nat) (hM:M≤1048576*1048577)
  (hI:∀p,p∈ps→∀t,t∈p.f2→I64 t.f3.f1) (r:List S50×List (List Int)):
  ∀i,i≤ps.length→∀(al:List S50) (of:List Int),al.length≤M+i→of.length=i→(∀x,x∈al→GA x)→
   Ev (fun k=>ys_.l0 k R (R.length:Int) ((j+1:Nat):Int) (runP (ps.drop i) (al,of)).1 (Of++[(runP (ps.drop i) (al,of)).2]) (mOf (runP (ps.drop i) (al,of)).1 (runP (ps.drop i) (al,of)).1.length)) r→
   Ev (fun k=>ys_.l1 k of R (R.length:Int) (j:Int) ps (ps.length:Int) (i:Int) al Of (mOf al al.length)) r:=by
 refine up_ind ?_ ?_
 ·intro al of _ _ _ h;rw [List.drop_length] at h;refine Ev.step (fun k=>by simp only [ys_.l1];exact rfl) ?_;refine Ev.ifF (by omega) (Ev.ifT (by omega) ?_);rw [x7_ hj (by omega)];exact h
 ·intro i hi ih al of h1 h2 h3 h;refine Ev.step (fun k=>by simp only [ys_.l1];exact rfl) ?_;refine Ev.ifT (by omega) (Ev.ifT (by omega) (Ev.ifT (by omega) ?_));rw [List.drop_eq_getElem_cons hi] at h;have e:zq_ ps (i:Int)=ps[i]:=rdq_ ps i hi
  have hg:GA (alO ps[i]):=alO_good _ (hI _ (List.getElem_mem hi))
  have hk:=key_some hg 0;refine Ev.bindE (a:=((alO ps[i]).f0,(alO ps[i]).f1,(alO ps[i]).f2)) (by rw [e];exact alO_some _) ?_;refine Ev.bind (a:=keyT (alO ps[i]).f2) ⟨0,fun n _=>(key_some hg n).1⟩ ?_;refine Ev.ifT ⟨hk.2,by rw [mOf_length];unfold maxLen;omega⟩ ?_;have el:=look_mOf al (alO ps[i]) hg al.length (fun q hq=>by rw [rdl_ al q hq];exact h3 _ (List.getElem_mem hq));have ea:((alO ps[i]).f0,(alO ps[i]).f1,keyT (alO ps[i]).f2)=akOf (alO ps[i]):=rfl
  rw [x7_ hi (by omega)];dsimp only
  rw [ea,el]
  have ih2:=ih (addP (al,of) (alO ps[i])).1 (addP (al,of) (alO ps[i])).2 (by have:=(addP_len (al,of) (alO ps[i])).1;dsimp only at this;omega) (by have:=(addP_len (al,of) (alO ps[i])).2;dsimp only at this;omega) (by
   intro x hx;rcases addP_mem _ _ x hx with g|g
   ·exact h3 x g
   ·rw [g];exact hg) h
  unfold addP at ih2
  dsimp only at ih2
  cases c:lastN al (alO ps[i]) al.length with
  | some x=>
   rw [c] at ih2;exact Ev.ifT rfl (Ev.ifT (by omega) ih2)
  | none=>
   rw [c] at ih2;dsimp only at ih2
   rw [List.length_append,List.length_singleton,mOf_new] at ih2;exact Ev.ifF (by simp) (Ev.ifT (by omega) (Ev.ifT (by omega) ih2))
theorem runP_len:∀(ps:List S42) (st:List S50×List Int),(runP ps st).1.length≤st.1.length+ps.length∧(runP ps st).2.length=st.2.length+ps.length
 | [],st=>⟨Nat.le_refl _,rfl⟩
 | p::ps,st=>by
  have ih:=runP_len ps (addP st (alO p));have h:=addP_len st (alO p);unfold runP
  rw [List.length_cons];omega
theorem runP_good:∀(ps:List S42) (st:List S50×List Int),(∀p,p∈ps→∀t,t∈p.f2→I64 t.f3.f1)→(∀x,x∈st.1→GA x)→∀x,x∈(runP ps st).1→GA x
 | [],st,_,h=>h
 | p::ps,st,hI,h=>by
  unfold runP
  refine runP_good ps _ (fun q hq=>hI q (List.mem_cons_of_mem _ hq)) ?_;intro x hx;rcases addP_mem _ _ x hx with g|g
  ·exact h x g
  ·rw [g];exact alO_good _ (hI p List.mem_cons_self)
set_option maxRecDepth 100000 in
theorem net_l0 (R:List S39) (hR:R.length≤1048576) (hP:∀q,q∈R→q.f2.length≤1048576) (hI:∀q,q∈R→∀p,p∈q.f2→∀t,t∈p.f2→I64 t.f3.f1):
  ∀j,j≤R.length→∀(al:List S50) (Of:List (List Int)),al.length≤j*1048576→Of.length=j→(∀x,x∈al→GA x)→
   Ev (fun k=>zj_.l0 k R (R.length:Int) (j:Int) al Of) (runR (R.drop j) (al,Of))∧Ev (fun k=>ys_.l0 k R (R.length:Int) (j:Int) al Of (mOf al al.length)) (runR (R.drop j) (al,Of)):=by
 refine up_ind ?_ ?_
 ·intro al Of _ _ _;rw [List.drop_length];constructor
  ·refine Ev.step (fun k=>by simp only [zj_.l0];exact rfl) ?_;exact Ev.ifF (by omega) (Ev.now _)
  ·refine Ev.step (fun k=>by simp only [ys_.l0];exact rfl) ?_;exact Ev.ifF (by omega) (Ev.now _)
 ·intro j hj ih al Of h1 h2 h3;rw [List.drop_eq_getElem_cons hj];have e:z9_ R (j:Int)=R[j]:=rdR_ R j hj
  have hm:=List.getElem_mem hj;have hp:=hP _ hm;have hi:=hI _ hm;have l1:=runP_len R[j].f2 (al,[])
  have hM:j*1048576≤1048576*1048577:=by
   have:=Nat.mul_le_mul_right 1048576 (show j≤1048577 by omega)
   omega
  obtain ⟨a1,a2⟩:=ih (runP R[j].f2 (al,[])).1 (Of++[(runP R[j].f2 (al,[])).2]) (by
   have:=l1.1
   dsimp only at this
   rw [Nat.add_mul];omega) (by simp [h2]) (runP_good _ _ hi h3)
  constructor
  ·refine Ev.step (fun k=>by simp only [zj_.l0];exact rfl) ?_;refine Ev.ifT (by omega) (Ev.ifT (by omega) (Ev.ifT (by omega) ?_));rw [e];have hof:Of.length<1048576+1:=by omega
   obtain ⟨M,hMe⟩:∃M,M=j*1048576:=⟨_,rfl⟩;rw [←hMe] at h1 hM;have hal:al.length≤M+0:=Nat.le_trans h1 (Nat.le_add_right _ _)
   exact specNet_l1 R R[j].f2 j hj hR Of hp hof M hM _ 0 (Nat.zero_le _) al [] hal rfl (fun x hx=>(h3 x hx).2.1) a1
  ·refine Ev.step (fun k=>by simp only [ys_.l0];exact rfl) ?_;refine Ev.ifT (by omega) (Ev.ifT (by omega) (Ev.ifT (by omega) ?_));rw [e];have hof:Of.length<1048576+1:=by omega
   obtain ⟨M,hMe⟩:∃M,M=j*1048576:=⟨_,rfl⟩;rw [←hMe] at h1 hM;have hal:al.length≤M+0:=Nat.le_trans h1 (Nat.le_add_right _ _)
   exact implNet_l1 R R[j].f2 j hj hR Of hp hof M hM hi _ 0 (Nat.zero_le _) al [] hal rfl h3 a2
theorem net_both (R:List S39) (hsz:∀q,q∈R→RuleSz q) (hP:∀q,q∈R→q.f2.length≤1048576) (hI:∀q,q∈R→∀p,p∈q.f2→∀t,t∈p.f2→I64 t.f3.f1):
  ∃z,(z=([],[])∨(R.length≤16∧z=runR R ([],[])))∧Ev (fun k=>zj_.f k R) z∧Ev (fun k=>ys_.f k R) z:=by
 obtain ⟨cb,hc1,hc2,hc3⟩:=checked_both R hsz;cases cb with
 | false=>
  refine ⟨([],[]),.inl rfl,?_,?_⟩
  ·exact Ev.congr (fun k=>by unfold zj_.f;exact rfl) (Ev.bind hc1 (Ev.ifF Bool.false_ne_true (Ev.now _)))
  ·exact Ev.congr (fun k=>by unfold ys_.f;exact rfl) (Ev.bind hc2 (Ev.ifF Bool.false_ne_true (Ev.now _)))
 | true=>
  obtain ⟨h16,_⟩:=hc3 rfl;obtain ⟨a1,a2⟩:=net_l0 R (by omega) hP hI 0 (Nat.zero_le _) [] [] (Nat.zero_le _) rfl (fun x hx=>absurd hx List.not_mem_nil);refine ⟨runR R ([],[]),.inr ⟨h16,rfl⟩,?_,?_⟩
  ·exact Ev.congr (fun k=>by unfold zj_.f;exact rfl) (Ev.bind hc1 (Ev.ifT rfl a1))
  ·exact Ev.congr (fun k=>by unfold ys_.f;exact rfl) (Ev.bind hc2 (Ev.ifT rfl a2))
theorem eqTests (xs:List S82) (hl:xs.length≤1152921504606846976):Ev (fun k=>zp_.f k xs xs) true:=by
 refine Ev.congr (fun k=>by unfold zp_.f;exact rfl) (Ev.ifT (by trivial) ?_)
 have key:∀i,i≤xs.length→Ev (fun k=>zp_.l0 k xs xs (i:Int)) true:=by
  refine up_ind ?_ ?_
  ·refine Ev.step (fun k=>by simp only [zp_.l0];exact rfl) ?_;exact Ev.ifF (by omega) (Ev.now _)
  ·intro i hi ih;refine Ev.step (fun k=>by simp only [zp_.l0];exact rfl) ?_;refine Ev.ifT (by omega) (Ev.ifT (by omega) (Ev.ifT (by omega) ?_));refine Ev.bindE (a:=true) (by unfold laws_eqAlphaTest.f laws_eqValue.f;simp) ?_;refine Ev.ifT rfl ?_;rw [x7_ hi (by omega)];exact ih
 exact key 0 (Nat.zero_le _)
theorem eqInts_ (xs:List Int) (hl:xs.length≤1152921504606846976):Ev (fun k=>yi_.f k xs xs) true:=by
 refine Ev.congr (fun k=>by unfold yi_.f;exact rfl) (Ev.ifT (by trivial) ?_)
 have key:∀i,i≤xs.length→Ev (fun k=>yi_.l0 k xs xs (i:Int)) true:=by
  refine up_ind ?_ ?_
  ·refine Ev.step (fun k=>by simp only [yi_.l0];exact rfl) ?_;exact Ev.ifF (by omega) (Ev.now _)
  ·intro i hi ih;refine Ev.step (fun k=>by simp only [yi_.l0];exact rfl) ?_;refine Ev.ifT (by omega) (Ev.ifT (by omega) (Ev.ifT (by omega) (Ev.ifT (by trivial) ?_)));rw [x7_ hi (by omega)];exact ih
 exact key 0 (Nat.zero_le _)
theorem rd9_ (l:List (List Int)) (i:Nat) (h:i<l.length):rd_L9 l (i:Int)=l[i]:=by unfold rd_L9;simp [h]
theorem eqIntss_ (xs:List (List Int)) (hl:xs.length≤1152921504606846976) (hs:∀x,x∈xs→x.length≤1152921504606846976):Ev (fun k=>x6_.f k xs xs) true:=by
 refine Ev.congr (fun k=>by unfold x6_.f;exact rfl) (Ev.ifT (by trivial) ?_)
 have key:∀i,i≤xs.length→Ev (fun k=>x6_.l0 k xs xs (i:Int)) true:=by
  refine up_ind ?_ ?_
  ·refine Ev.step (fun k=>by simp only [x6_.l0];exact rfl) ?_;exact Ev.ifF (by omega) (Ev.now _)
  ·intro i hi ih;refine Ev.step (fun k=>by simp only [x6_.l0];exact rfl) ?_;refine Ev.ifT (by omega) (Ev.ifT (by omega) (Ev.ifT (by omega) ?_));refine Ev.bind (by rw [rd9_ xs i hi];exact eqInts_ _ (hs _ (List.getElem_mem hi))) (Ev.ifT rfl ?_);rw [x7_ hi (by omega)];exact ih
 exact key 0 (Nat.zero_le _)
theorem eqAlphas (xs:List S50) (hl:xs.length≤1152921504606846976) (hs:∀x,x∈xs→x.f2.length≤1152921504606846976):Ev (fun k=>y8_.f k xs xs) true:=by
 refine Ev.congr (fun k=>by unfold y8_.f;exact rfl) (Ev.ifT (by trivial) ?_)
 have key:∀i,i≤xs.length→Ev (fun k=>y8_.l0 k xs xs (i:Int)) true:=by
  refine up_ind ?_ ?_
  ·refine Ev.step (fun k=>by simp only [y8_.l0];exact rfl) ?_;exact Ev.ifF (by omega) (Ev.now _)
  ·intro i hi ih;refine Ev.step (fun k=>by simp only [y8_.l0];exact rfl) ?_;refine Ev.ifT (by omega) (Ev.ifT (by omega) (Ev.ifT (by omega) ?_))
   have e1:Ev (fun k=>wr_.f k (xg_ xs (i:Int)).f0 (xg_ xs (i:Int)).f1 (xg_ xs (i:Int)).f2 (xg_ xs (i:Int)).f0 (xg_ xs (i:Int)).f1 (xg_ xs (i:Int)).f2) true:=by
    refine Ev.congr (fun k=>by unfold wr_.f;exact rfl) (Ev.ifT rfl (Ev.ifT rfl ?_));exact Ev.bind (eqTests _ (by rw [rdl_ xs i hi];exact hs _ (List.getElem_mem hi))) (Ev.ifT rfl (Ev.now _))
   refine Ev.bind e1 (Ev.ifT rfl ?_);rw [x7_ hi (by omega)];exact ih
 exact key 0 (Nat.zero_le _)
theorem eqNet_ (al:List S50) (of:List (List Int)) (h1:al.length≤1152921504606846976) (h2:∀x,x∈al→x.f2.length≤1152921504606846976) (h3:of.length≤1152921504606846976) (h4:∀x,x∈of→x.length≤1152921504606846976):Ev (fun k=>laws_eqNet.f k al of al of) true:=by
 refine Ev.congr (fun k=>by unfold laws_eqNet.f;exact rfl) ?_;exact Ev.bind (eqAlphas al h1 h2) (Ev.ifT rfl (Ev.bind (eqIntss_ of h3 h4) (Ev.ifT rfl (Ev.now _))))
theorem runR_len:∀(rs:List S39) (st:List S50×List (List Int)),(∀q,q∈rs→q.f2.length≤1048576)→(∀q,q∈rs→∀p,p∈q.f2→∀t,t∈p.f2→I64 t.f3.f1)→(∀x,x∈st.1→GA x)→(∀x,x∈st.2→x.length≤1048576)→
  (runR rs st).1.length≤st.1.length+rs.length*1048576∧(runR rs st).2.length=st.2.length+rs.length∧(∀x,x∈(runR rs st).1→GA x)∧(∀x,x∈(runR rs st).2→x.length≤1048576)
 | [],st,_,_,h1,h2=>⟨Nat.le_add_right _ _,rfl,h1,h2⟩
 | r::rs,st,hp,hi,h1,h2=>by
  have l1:=runP_len r.f2 (st.1,[]);have p1:=hp r List.mem_cons_self
  have ih:=runR_len rs ((runP r.f2 (st.1,[])).1,st.2++[(runP r.f2 (st.1,[])).2]) (fun q hq=>hp q (List.mem_cons_of_mem _ hq)) (fun q hq=>hi q (List.mem_cons_of_mem _ hq)) (runP_good r.f2 (st.1,[]) (hi r List.mem_cons_self) h1) (by
   intro x hx;rcases List.mem_append.1 hx with g|g
   ·exact h2 x g
   ·rw [List.mem_singleton.1 g,l1.2];simpa using p1)
  unfold runR
  obtain ⟨a1,a2,a3,a4⟩:=ih;dsimp only at a1 a2 l1
  rw [List.length_append,List.length_singleton] at a2;refine ⟨?_,?_,a3,a4⟩
  ·rw [List.length_cons,Nat.add_mul];have:=l1.1
   omega
  ·rw [List.length_cons];omega
def mkAlphaTest (a:Int) (_:S82):S82:=⟨a,a+1,a+2,⟨a+3,a+4,mtxt (a+5)⟩⟩
def xy_ (_:S82):Nat:=6
theorem mark_AlphaTestS (xs:List S82) (a:Int) (hl:xs.length≤9223372036854775807) (h0:0≤a) (h1:a+cntL xy_ xs≤4611686018427387904):Ev (fun k=>zs_.f k xs a) (a+cntL xy_ xs,mkL mkAlphaTest xy_ a xs):=by
 refine mark_loop mkAlphaTest xy_ (fun k ys a i=>zs_.l0 k ys a i) ?_ ?_ xs a hl h0 h1
 ·intro d x t a r hl h0 h1 ih;unfold xy_ at h1 ih
  have w0:wrap64 (a+1)=a+1:=by unfold wrap64;omega
  have w1:wrap64 (a+1+1)=a+2:=by unfold wrap64;omega
  have w2:wrap64 (a+2+1)=a+3:=by unfold wrap64;omega
  have w3:wrap64 (a+3+1)=a+4:=by unfold wrap64;omega
  have w4:wrap64 (a+4+1)=a+5:=by unfold wrap64;omega
  have w5:wrap64 (a+5+1)=a+((6:Nat):Int):=by unfold wrap64;omega
  have wi:wrap64 ((d.length:Int)+1)=((d.length+1:Nat):Int):=by unfold wrap64;rw [len_mid] at hl;omega
  refine Ev.step (fun k=>by simp only [zs_.l0];exact rfl) ?_;refine Ev.ifT (by rw [len_mid];omega) ?_;refine Ev.ifT (by omega) ?_;simp only [Option.bind_some,zb_,Int.toNat_natCast,rd_mid,set_mid,w0,w1,w2,w3,w4,w5,wi];refine Ev.bind (mark_text _ (by omega) (by omega)) ?_;exact ih
 ·intro d a;refine Ev.step (fun k=>by simp only [zs_.l0];exact rfl) ?_;exact Ev.ifF (by omega) (Ev.now _)
theorem held_AlphaTestS (xs:List S82) (a:Int) (hl:xs.length≤9223372036854775807) (h0:0≤a) (h1:a+cntL xy_ xs≤4611686018427387904):Ev (fun k=>zh_.f k (mkL mkAlphaTest xy_ a xs) a) (a+cntL xy_ xs):=by
 refine held_loop mkAlphaTest xy_ (fun k ys a i=>zh_.l0 k ys a i) ?_ ?_ xs a hl h0 h1
 ·intro d x t a r hl h0 h1 ih;unfold xy_ at h1 ih
  have w0:wrap64 (a+1)=a+1:=by unfold wrap64;omega
  have w1:wrap64 (a+1+1)=a+2:=by unfold wrap64;omega
  have w2:wrap64 (a+2+1)=a+3:=by unfold wrap64;omega
  have w3:wrap64 (a+3+1)=a+4:=by unfold wrap64;omega
  have w4:wrap64 (a+4+1)=a+5:=by unfold wrap64;omega
  have w5:wrap64 (a+5+1)=a+((6:Nat):Int):=by unfold wrap64;omega
  have wi:wrap64 ((d.length:Int)+1)=((d.length+1:Nat):Int):=by unfold wrap64;rw [len_mid] at hl;omega
  refine Ev.step (fun k=>by simp only [zh_.l0];exact rfl) ?_;refine Ev.ifT (by rw [len_mid];omega) ?_;refine Ev.ifT (by omega) ?_;simp only [zb_,Int.toNat_natCast,rd_mid,mkAlphaTest,w0,w1,w2,w3,w4,w5,wi];unfold mkAlphaTest at ih
  refine Ev.ifT (by trivial) ?_;refine Ev.ifT (by trivial) ?_;refine Ev.ifT (by trivial) ?_;refine Ev.ifT (by trivial) ?_;refine Ev.ifT (by trivial) ?_;refine Ev.bind (mark_text _ (by omega) (by omega)) ?_;refine Ev.ifT (by trivial) ?_;exact ih
 ·intro d a;refine Ev.step (fun k=>by simp only [zh_.l0];exact rfl) ?_;exact Ev.ifF (by omega) (Ev.now _)
def mkI:Int→Int→Int:=fun a _=>a
def mnI:Int→Nat:=fun _=>1
theorem cntI (xs:List Int):cntL mnI xs=xs.length:=by
 have:=cntL_const 1 xs
 rw [Nat.one_mul] at this;exact this
theorem markInts (xs:List Int) (a:Int) (hl:xs.length≤9223372036854775807) (h0:0≤a) (h1:a+cntL mnI xs≤4611686018427387904):Ev (fun k=>yw_.f k xs a) (a+cntL mnI xs,mkL mkI mnI a xs):=by
 refine mark_loop mkI mnI (fun k ys a i=>yw_.l0 k ys a i) ?_ ?_ xs a hl h0 h1
 ·intro d x t a r hl h0 h1 ih;unfold mnI at h1 ih
  have w0:wrap64 (a+1)=a+((1:Nat):Int):=by unfold wrap64;omega
  have wi:wrap64 ((d.length:Int)+1)=((d.length+1:Nat):Int):=by unfold wrap64;rw [len_mid] at hl;omega
  refine Ev.step (fun k=>by simp only [yw_.l0,w0,wi,Int.toNat_natCast,set_mid];exact rfl) ?_;exact Ev.ifT (by rw [len_mid];omega) (Ev.ifT (by omega) ih)
 ·intro d a;refine Ev.step (fun k=>by simp only [yw_.l0];exact rfl) ?_;exact Ev.ifF (by omega) (Ev.now _)
theorem heldInts (xs:List Int) (a:Int) (hl:xs.length≤9223372036854775807) (h0:0≤a) (h1:a+cntL mnI xs≤4611686018427387904):Ev (fun k=>yn_.f k (mkL mkI mnI a xs) a) (a+cntL mnI xs):=by
 refine held_loop mkI mnI (fun k ys a i=>yn_.l0 k ys a i) ?_ ?_ xs a hl h0 h1
 ·intro d x t a r hl h0 h1 ih;unfold mnI at h1 ih
  have w0:wrap64 (a+1)=a+((1:Nat):Int):=by unfold wrap64;omega
  have wi:wrap64 ((d.length:Int)+1)=((d.length+1:Nat):Int):=by unfold wrap64;rw [len_mid] at hl;omega
  refine Ev.step (fun k=>by simp only [yn_.l0,w0,wi,rd,Int.toNat_natCast,rd_mid];exact rfl) ?_;refine Ev.ifT (by rw [len_mid];omega) (Ev.ifT (by omega) (Ev.ifT (by rfl) ih))
 ·intro d a;refine Ev.step (fun k=>by simp only [yn_.l0];exact rfl) ?_;exact Ev.ifF (by omega) (Ev.now _)
def mkII:Int→List Int→List Int:=mkL mkI mnI
def mnII:List Int→Nat:=cntL mnI
theorem markIntss:∀(xs:List (List Int)) (a:Int),(∀x,x∈xs→x.length≤9223372036854775807)→0≤a→a+cntL mnII xs≤4611686018427387904→Ev (fun k=>x9_.f k xs a) (a+cntL mnII xs,mkL mkII mnII a xs)
 | [],a,_,h0,h1=>by
  refine Ev.as (Ev.now (a,[])) ?_;simp [cntL,mkL]
 | x::xs,a,hl,h0,h1=>by
  rw [cntL_cons] at h1 ⊢;have hx:=markInts x a (hl x List.mem_cons_self) h0 (by unfold mnII at h1;omega);have ih:=markIntss xs (a+cntL mnI x) (fun y hy=>hl y (List.mem_cons_of_mem _ hy)) (by omega) (by unfold mnII at h1 ⊢;omega);refine Ev.bind (g:=fun k=>yw_.f k x a) hx ?_;refine Ev.bind (g:=fun k=>x9_.r k xs (a+cntL mnI x)) ih ?_;refine Ev.as (Ev.now _) ?_;rw [mkL];unfold mnII mkII
  dsimp only
  rw [show a+(cntL mnI x:Int)+(cntL (cntL mnI) xs:Int)=a+((cntL mnI x+cntL (cntL mnI) xs:Nat):Int) by omega]
theorem heldIntss (xs:List (List Int)) (a:Int) (hl:xs.length≤9223372036854775807) (he:∀x,x∈xs→x.length≤9223372036854775807) (h0:0≤a) (h1:a+cntL mnII xs≤4611686018427387904):Ev (fun k=>yp_.f k (mkL mkII mnII a xs) a) (a+cntL mnII xs):=by
 refine held_loop mkII mnII (fun k ys a i=>yp_.l0 k ys a i) ?_ ?_ xs a hl h0 h1
 ·intro d x t a r hl h0 h1 ih;have wi:wrap64 ((d.length:Int)+1)=((d.length+1:Nat):Int):=by unfold wrap64;rw [len_mid] at hl;omega
  have hx:Ev (fun k=>yn_.f k (mkII a x) a) (a+mnII x):=heldInts x a (by unfold mnII at h1;rw [cntI] at h1;omega) h0 h1
  refine Ev.step (fun k=>by simp only [yp_.l0,wi,rd_L9,Int.toNat_natCast,rd_mid];exact rfl) ?_;refine Ev.ifT (by rw [len_mid];omega) (Ev.ifT (by omega) (Ev.bind hx (Ev.ifF (by omega) ih)))
 ·intro d a;refine Ev.step (fun k=>by simp only [yp_.l0];exact rfl) ?_;exact Ev.ifF (by omega) (Ev.now _)
def mkAlpha (a:Int) (x:S50):S50:=⟨mtxt a,a+1,mkL mkAlphaTest xy_ (a+2) x.f2⟩
def mnAlpha (x:S50):Nat:=2+cntL xy_ x.f2
theorem tests_cnt (xs:List S82):cntL xy_ xs=6 * xs.length:=cntL_const 6 xs
theorem markAlphas:∀(xs:List S50) (a:Int),(∀x,x∈xs→x.f2.length≤9223372036854775807)→0≤a→a+cntL mnAlpha xs≤4611686018427387904→Ev (fun k=>yx_.f k xs a) (a+cntL mnAlpha xs,mkL mkAlpha mnAlpha a xs)
 | [],a,_,h0,h1=>by
  refine Ev.as (Ev.now (a,[])) ?_;simp [cntL,mkL]
 | x::xs,a,hl,h0,h1=>by
  rw [cntL_cons] at h1 ⊢;have w0:wrap64 (a+1)=a+1:=by unfold mnAlpha at h1;unfold wrap64;omega
  have w1:wrap64 (a+1+1)=a+2:=by unfold mnAlpha at h1;unfold wrap64;omega
  have hx:=mark_AlphaTestS x.f2 (a+2) (hl x List.mem_cons_self) (by omega) (by unfold mnAlpha at h1;omega);have ih:=markAlphas xs (a+2+cntL xy_ x.f2) (fun y hy=>hl y (List.mem_cons_of_mem _ hy)) (by omega) (by unfold mnAlpha at h1 ⊢;omega);refine Ev.congr (fun k=>by unfold yx_.f yx_.r;simp only [w0,w1];exact rfl) ?_;refine Ev.bind (mark_text a h0 (by unfold mnAlpha at h1;omega)) ?_;refine Ev.bind (g:=fun k=>zs_.f k x.f2 (a+2)) hx ?_;refine Ev.bind (g:=fun k=>yx_.r k xs (a+2+cntL xy_ x.f2)) ih ?_;refine Ev.as (Ev.now _) ?_;rw [mkL];unfold mkAlpha
  have e:((mnAlpha x:Nat):Int)=2+(cntL xy_ x.f2:Int):=by unfold mnAlpha;omega
  dsimp only
  rw [show a+2+(cntL xy_ x.f2:Int)+(cntL mnAlpha xs:Int)=a+((mnAlpha x+cntL mnAlpha xs:Nat):Int) by omega,show a+2+(cntL xy_ x.f2:Int)=a+(mnAlpha x:Int) by omega]
theorem heldAlphas (xs:List S50) (a:Int) (hl:xs.length≤9223372036854775807) (hs:∀x,x∈xs→x.f2.length≤9223372036854775807) (h0:0≤a) (h1:a+cntL mnAlpha xs≤4611686018427387904):Ev (fun k=>zx_.f k (mkL mkAlpha mnAlpha a xs) a) (a+cntL mnAlpha xs):=by
 refine held_loop mkAlpha mnAlpha (fun k ys a i=>zx_.l0 k ys a i) ?_ ?_ xs a hl h0 h1
 ·intro d x t a r hl h0 h1 ih;unfold mnAlpha at h1 ih
  have w0:wrap64 (a+1)=a+1:=by unfold wrap64;omega
  have w1:wrap64 (a+1+1)=a+2:=by unfold wrap64;omega
  have wi:wrap64 ((d.length:Int)+1)=((d.length+1:Nat):Int):=by unfold wrap64;rw [len_mid] at hl;omega
  have hx:=held_AlphaTestS x.f2 (a+2) (by have h9:=tests_cnt x.f2;omega) (by omega) (by omega);have e:a+((2+cntL xy_ x.f2:Nat):Int)=a+2+(cntL xy_ x.f2:Int):=by omega
  rw [e] at ih;refine Ev.step (fun k=>by simp only [zx_.l0,w0,w1,wi,xg_,Int.toNat_natCast,rd_mid];exact rfl) ?_;refine Ev.ifT (by rw [len_mid];omega) (Ev.ifT (by omega) (Ev.bind (mark_text a h0 (by omega)) (Ev.ifT (by rfl) (Ev.ifT (by rfl) (Ev.bind hx (Ev.ifF (by omega) ih))))))
 ·intro d a;refine Ev.step (fun k=>by simp only [zx_.l0];exact rfl) ?_;exact Ev.ifF (by omega) (Ev.now _)
end Go.Proofs.YtahambloheoebaaGreatDoor.Pure
