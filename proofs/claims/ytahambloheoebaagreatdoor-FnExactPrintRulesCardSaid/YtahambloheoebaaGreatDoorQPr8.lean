/- The row of the law FnExactPrintRules: for every input the call returns true, and each argument reads behind it as it read before; no condition of ours. -/
import Derived.ChangeArms
import Derived.DataReads
import Derived.WideShapes
import Derived.Test.YtahambloheoebaaGreatDoorQPr7
namespace Go.Proofs.YtahambloheoebaaGreatDoor.Pure
open Go.RowKit Go.Proofs.YtahambloheoebaaGreatDoor.P Go.Proofs.YtahambloheoebaaGreatDoorW.PrintWords Go.Proofs.YtahambloheoebaaGreatDoorW.PrintLast Go.Proofs.YtahambloheoebaaGreatDoorX
set_option linter.unusedVariables false
set_option linter.unusedSimpArgs false
theorem goodExpr_ev {es:List S161} {i:Nat} {fs ds:List Int} (h:TInv es i fs ds) (hi:i<es.length) (h60:es.length≤60) (hb:okByte (exA es i).f1):
  ∃g fs' ds',Ev (fun k=>spec_l2GoodExpr.f k es (i:Int)) g∧impl_trees_grow.f es fs ds=some (g,fs',ds')∧(g=true→TInv es (i+1) fs' ds'):=by
 have hl:=h.lf;have hd:=h.ld;have hz:=l2Zero_some (exA es i).f3;have hv:=l1GoodVal_some (exA es i).f3;have hs:=l1GoodSym_some (exA es i).f2
 have hgrow:∀r,(fun e:S161=>
   if e.f0=0 then some (onlyC e&&goodValueB e.f3,fs++[(fs.length:Int)],ds++[0])
   else if e.f0=1 then some (onlyV e&&goodSymB e.f2,fs++[(fs.length:Int)],ds++[0])
   else if e.f0=2 then
    if onlyO e=true∧arithB e.f1=true∧e.f5=(fs.length:Int)-1∧0≤e.f5∧0≤e.f4 then
     if 0≤rd fs e.f5∧rd fs e.f5≤64 then
      if e.f4=rd fs e.f5-1 then
       if e.f4<(fs.length:Int)∧0≤rd ds e.f4∧rd ds e.f4≤64∧0≤rd ds e.f5∧rd ds e.f5≤64 then
        some (decide (1+mx (rd ds e.f4) (rd ds e.f5)≤20),fs++[rd fs e.f4],ds++[1+mx (rd ds e.f4) (rd ds e.f5)])
       else none
      else some (false,fs++[(fs.length:Int)],ds++[0])
     else none
    else some (false,fs++[(fs.length:Int)],ds++[0])
   else some (false,fs++[(fs.length:Int)],ds++[0])) (exA es i)=some r→impl_trees_grow.f es fs ds=some r:=by
  intro r hr;unfold impl_trees_grow.f
  rw [if_pos ⟨h60,by omega,by omega⟩,hl,rdE];rw [hl] at hr;exact hr
 have hj:∀r,Ev (fun k=>spec_l2GoodExpr.j0 k es (i:Int) (leafB (exA es i)) (exA es i).f0 (exA es i).f1 (exA es i).f2 (exA es i).f3.f0 (exA es i).f3.f1 (exA es i).f3.f2 (exA es i).f4 (exA es i).f5) r→Ev (fun k=>spec_l2GoodExpr.f k es (i:Int)) r:=by
  intro r hr;refine Ev.congr (fun k=>by unfold spec_l2GoodExpr.f;rw [rdE]) ?_;refine Ev.ifT (by omega) (Ev.ifT (by omega) ?_);unfold leafB at hr
  refine Ev.ite (fun c=>?_) (fun c=>?_)
  ·rw [beq_iff_eq.2 c,Bool.true_and] at hr;refine Ev.ite (fun c=>?_) (fun c=>?_)
   ·rw [beq_iff_eq.2 c,Bool.true_and] at hr;exact hr
   ·rw [beq_eq_false_iff_ne.2 c,Bool.false_and] at hr;exact hr
  ·rw [beq_eq_false_iff_ne.2 c,Bool.false_and] at hr;exact hr
 by_cases k0:(exA es i).f0=0
 ·refine ⟨_,_,_,hj _ ?_,hgrow _ (if_pos k0),fun gg=>?_⟩
  ·refine Ev.step (fun k=>by simp only [spec_l2GoodExpr.j0];exact rfl) ?_;refine Ev.ifT k0 ?_;rw [onlyC_eq _ k0];cases hL:leafB (exA es i) with
   | false=>exact Ev.ifF (by simp) (Ev.now _)
   | true=>
    refine Ev.ifT (by trivial) ?_;refine Ev.ite (fun c=>?_) (fun c=>?_)
    ·rw [toList_nil_iff] at c;rw [c];exact Ev.bind hv (Ev.now _)
    ·rw [toList_nil_iff,Bool.not_eq_true] at c;rw [c];exact Ev.now _
  ·rw [hl];exact h.snoc _ _ (by omega) (by omega) (by omega) (by omega) (Or.inl ⟨by omega,rfl,rfl⟩) (Or.inl ⟨k0,((Bool.and_eq_true _ _).mp gg).2⟩)
 by_cases k1:(exA es i).f0=1
 ·refine ⟨_,_,_,hj _ ?_,hgrow _ ((if_neg k0).trans (if_pos k1)),fun gg=>?_⟩
  ·refine Ev.step (fun k=>by simp only [spec_l2GoodExpr.j0];exact rfl) ?_;refine Ev.ifF k0 (Ev.ifT k1 ?_);rw [onlyV_eq _ k1];cases hL:leafB (exA es i) with
   | false=>exact Ev.ifF (by simp) (Ev.now _)
   | true=>
    refine Ev.ifT (by trivial) (Ev.bind hs ?_);refine Ev.ite (fun c=>?_) (fun c=>?_)
    ·rw [c,Bool.and_true,Bool.true_and];exact Ev.bindE hz (Ev.now _)
    ·rw [Bool.not_eq_true] at c;rw [c,Bool.and_false];exact Ev.now _
  ·rw [hl];exact h.snoc _ _ (by omega) (by omega) (by omega) (by omega) (Or.inl ⟨by omega,rfl,rfl⟩) (Or.inr (Or.inl ⟨k1,((Bool.and_eq_true _ _).mp gg).2⟩))
 by_cases k2:(exA es i).f0=2
 rotate_left
 ·refine ⟨_,_,_,hj _ ?_,hgrow _ ((if_neg k0).trans ((if_neg k1).trans (if_neg k2))),fun e=>by cases e⟩;refine Ev.step (fun k=>by simp only [spec_l2GoodExpr.j0];exact rfl) ?_;exact Ev.ifF k0 (Ev.ifF k1 (Ev.ifF k2 (Ev.now _)))
 obtain ⟨L,hL,hA⟩:=ariths_some _ hb;have honly:=onlyO_eq _ k2;have hgrow2:=fun r hr=>hgrow r ((if_neg k0).trans ((if_neg k1).trans ((if_pos k2).trans hr)))
 clear hgrow
 have hj1:∀b r,(b=true→r=false)→(b=false→Ev (fun k=>(spec_l2First.f k es (exA es i).f5).bind fun t168=>(if (exA es i).f4=(wrap64 (t168-1)) then ((spec_l2Depth.f k es (i:Int)).bind fun t169=>(some (decide (t169≤20)))) else (some false))) r)→
   Ev (fun k=>spec_l2GoodExpr.j1 k es (i:Int) b (exA es i).f0 (exA es i).f1 (exA es i).f2 (exA es i).f3.f0 (exA es i).f3.f1 (exA es i).f3.f2 (exA es i).f4 (exA es i).f5) r:=by
  intro b r h1 h2;refine Ev.step (fun k=>by simp only [spec_l2GoodExpr.j1];exact rfl) ?_;cases b with
  | true=>exact Ev.ifT (by trivial) (Ev.as (Ev.now _) (h1 rfl).symm)
  | false=>exact Ev.ifF (by simp) (h2 rfl)
 by_cases o1:onlyO (exA es i)=true∧arithB (exA es i).f1=true∧(exA es i).f5=(fs.length:Int)-1∧0≤(exA es i).f5∧0≤(exA es i).f4
 rotate_left
 ·
  refine ⟨_,_,_,hj _ ?_,hgrow2 _ (if_neg o1),fun e=>by cases e⟩;refine Ev.step (fun k=>by simp only [spec_l2GoodExpr.j0];exact rfl) ?_;refine Ev.ifF k0 (Ev.ifF k1 (Ev.ifT k2 ?_));refine Ev.bindE hL (Ev.bind hA ?_);have bad:Ev (fun k=>spec_l2GoodExpr.j1 k es (i:Int) true (exA es i).f0 (exA es i).f1 (exA es i).f2 (exA es i).f3.f0 (exA es i).f3.f1 (exA es i).f3.f2 (exA es i).f4 (exA es i).f5) false:=hj1 _ _ (fun _=>rfl) (fun e=>by cases e)
  refine Ev.ite (fun c1=>?_) (fun _=>bad);refine Ev.ite (fun c2=>?_) (fun _=>bad);refine Ev.bindE hz ?_;refine Ev.ite (fun c3=>?_) (fun _=>bad);have hw:wrap64 ((i:Int)-1)=(fs.length:Int)-1:=by unfold wrap64;omega
  rw [hw];refine Ev.ite (fun c4=>?_) (fun _=>bad);refine Ev.ite (fun c5=>bad) (fun c5=>?_);refine hj1 _ _ (fun _=>rfl) (fun e=>?_);rw [toList_nil_iff] at c2;exact absurd ⟨by rw [honly,c2,c3];rfl,c1,c4,by omega,by simpa using e⟩ o1
 have o2:=o1;obtain ⟨p1,p2,p3,p4,p5⟩:=o2;rw [honly,Bool.and_eq_true] at p1;obtain ⟨b,hb5⟩:=Int.eq_ofNat_of_zero_le p4;have hbi:b<i:=by omega
 have hbb:=h.at_ b hbi;have hrb:rd fs (exA es i).f5=fs.getD b 0:=by rw [hb5];simp [rd]
 have hg1:0≤rd fs (exA es i).f5∧rd fs (exA es i).f5≤64:=by rw [hrb];omega
 have hF:=first_ev h (by omega) b hbi
 have hspec:∀r,Ev (fun k=>(if (exA es i).f4=(fs.getD b 0-1) then ((spec_l2Depth.f k es (i:Int)).bind fun t169=>(some (decide (t169≤20)))) else (some false))) r→Ev (fun k=>spec_l2GoodExpr.f k es (i:Int)) r:=by
  intro r hr;refine hj _ ?_;refine Ev.step (fun k=>by simp only [spec_l2GoodExpr.j0];exact rfl) ?_;refine Ev.ifF k0 (Ev.ifF k1 (Ev.ifT k2 ?_));refine Ev.bindE hL (Ev.bind hA ?_);refine Ev.ifT p2 (Ev.ifT ((toList_nil_iff _).2 p1.1) (Ev.bindE hz (Ev.ifT p1.2 ?_)));have hw:wrap64 ((i:Int)-1)=(fs.length:Int)-1:=by unfold wrap64;omega
  rw [hw];refine Ev.ifT p3 (Ev.ifF (by omega) ?_);refine hj1 _ _ (fun e=>absurd (of_decide_eq_true e) (by omega)) (fun _=>?_);rw [hb5];refine Ev.bind hF ?_;rw [show wrap64 (fs.getD b 0-1)=fs.getD b 0-1 by unfold wrap64;omega];exact hr
 by_cases a3:(exA es i).f4=rd fs (exA es i).f5-1
 rotate_left
 ·refine ⟨_,_,_,hspec _ ?_,hgrow2 _ ((if_pos o1).trans ((if_pos hg1).trans (if_neg a3))),fun e=>by cases e⟩;rw [hrb] at a3;exact Ev.ifF a3 (Ev.now _)
 obtain ⟨a,ha4⟩:=Int.eq_ofNat_of_zero_le p5;have hai:a<i:=by rw [hrb] at a3;omega
 have haa:=h.at_ a hai;have hra:rd fs (exA es i).f4=fs.getD a 0:=by rw [ha4];simp [rd]
 have hda:rd ds (exA es i).f4=ds.getD a 0:=by rw [ha4];simp [rd]
 have hdb:rd ds (exA es i).f5=ds.getD b 0:=by rw [hb5];simp [rd]
 have hg2:(exA es i).f4<(fs.length:Int)∧0≤rd ds (exA es i).f4∧rd ds (exA es i).f4≤64∧0≤rd ds (exA es i).f5∧rd ds (exA es i).f5≤64:=by
  rw [hda,hdb];omega
 refine ⟨_,_,_,hspec _ ?_,hgrow2 _ ((if_pos o1).trans ((if_pos hg1).trans ((if_pos a3).trans (if_pos hg2)))),fun e=>?_⟩
 ·rw [hrb] at a3;refine Ev.ifT a3 ?_;refine Ev.bind (depth_node i a b _ _ hi k2 ha4 hb5 haa.2.2.1 haa.2.2.2.1 hbb.2.2.1 hbb.2.2.2.1 (depth_ev h (by omega) a hai) (depth_ev h (by omega) b hbi)) ?_;rw [hda,hdb];exact Ev.now _
 ·have e2:=of_decide_eq_true e;rw [hda,hdb] at e2;rw [hra,hda,hdb];have h0:=mx_ge0 haa.2.2.1 hbb.2.2.1;exact h.snoc _ _ haa.1 (by omega) (by omega) e2 (Or.inr ⟨k2,a,b,hai,hbi,ha4,hb5,rfl,rfl⟩) (Or.inr (Or.inr ⟨k2,p2⟩))
theorem shapeE {es:List S161} (h60:es.length≤60) (hb:∀e,e∈es→okByte e.f1):∀m i,m+i=es.length→∀fs ds,TInv es i fs ds→
  ∃v fs' ds',Ev (fun k=>spec_l2Shape.e k es m i) v∧sf_e es m fs ds=some (v,fs',ds')∧(v=-1∧TInv es es.length fs' ds'∨0≤v):=by
 intro m;induction m with
 | zero=>
  intro i hm fs ds h;refine ⟨-1,fs,ds,Ev.now _,rfl,Or.inl ⟨rfl,?_⟩⟩;rw [show es.length=i by omega];exact h
 | succ m ih=>
  intro i hm fs ds h;have hi:i<es.length:=by omega
  obtain ⟨g,fs1,ds1,h1,h2,h3⟩:=goodExpr_ev h hi h60 (hb _ (by unfold exA;exact getD_in _ hi));cases g with
  | true=>
   obtain ⟨v,fs2,ds2,h4,h5,h6⟩:=ih (i+1) (by omega) fs1 ds1 (h3 rfl);refine ⟨v,fs2,ds2,?_,?_,h6⟩
   ·refine Ev.congr (fun k=>by unfold spec_l2Shape.e;exact rfl) ?_;exact Ev.bind h1 (Ev.ifT (by trivial) h4)
   ·unfold sf_e
    rw [h2];simp only [Option.bind_some];rw [if_pos (by trivial)];exact h5
  | false=>
   refine ⟨(i:Int)+1,fs1,ds1,?_,?_,Or.inr (by omega)⟩
   ·refine Ev.congr (fun k=>by unfold spec_l2Shape.e;exact rfl) ?_;exact Ev.bind h1 (Ev.ifF (by simp) (Ev.now _))
   ·unfold sf_e
    rw [h2];simp only [Option.bind_some];rw [if_neg (by simp),h.lf]
inductive Chain (fs:List Int):List Int→Int→Int→Prop
 | nil (n:Int):Chain fs [] n n
 | cons (x:Nat) (xs:List Int) (n n':Int) (hx:x<fs.length) (hf:fs.getD x 0=n) (h:Chain fs xs ((x:Int)+1) n'):Chain fs ((x:Int)::xs) n n'
theorem actG {es:List S161} {fs ds:List Int} (h:TInv es es.length fs ds) (h60:es.length≤60):∀(xs:List Int) (n:Int),∃g n',Ev (fun k=>spec_l2GoodAct.g k es xs n) (g,n')∧impl_Action_good.g fs xs n=some (g,n')∧(g=true→Chain fs xs n n'):=by
 intro xs;induction xs with
 | nil=>intro n;exact ⟨true,n,Ev.now _,rfl,fun _=>Chain.nil n⟩
 | cons x xs ih=>
  intro n;have hl:=h.lf;by_cases c:0≤x∧x<(es.length:Int)
  ·obtain ⟨a,rfl⟩:=Int.eq_ofNat_of_zero_le c.1;have ha:a<es.length:=by omega
   have hF:=first_ev h (Nat.le_refl _) a ha;have hr:rd fs (a:Int)=fs.getD a 0:=by simp [rd]
   by_cases e:fs.getD a 0=n
   ·obtain ⟨g,n',h1,h2,h3⟩:=ih ((a:Int)+1);refine ⟨g,n',?_,?_,fun hg=>Chain.cons a xs n n' (by omega) e (h3 hg)⟩
    ·refine Ev.congr (fun k=>by unfold spec_l2GoodAct.g;exact rfl) ?_;refine Ev.ifT c (Ev.bind hF (Ev.ifT e ?_));rw [show wrap64 ((a:Int)+1)=(a:Int)+1 by unfold wrap64;omega];exact h1
    ·unfold impl_Action_good.g
     rw [if_pos ⟨c.1,by omega⟩,hr,if_pos e];exact h2
   ·refine ⟨false,n,?_,?_,fun e=>by cases e⟩
    ·refine Ev.congr (fun k=>by unfold spec_l2GoodAct.g;exact rfl) ?_;exact Ev.ifT c (Ev.bind hF (Ev.ifF e (Ev.now _)))
    ·unfold impl_Action_good.g
     rw [if_pos ⟨c.1,by omega⟩,hr,if_neg e]
  ·refine ⟨false,n,?_,?_,fun e=>by cases e⟩
   ·refine Ev.congr (fun k=>by unfold spec_l2GoodAct.g;exact rfl) ?_;exact Ev.ifF c (Ev.now _)
   ·unfold impl_Action_good.g
    rw [if_neg (by rw [hl];exact c)]
theorem chain_nil {fs:List Int} {n n':Int} (h:Chain fs [] n n'):n'=n:=by cases h;rfl
def ActOK (a:S98):Prop:=a.f3.length≤6∧(a.f0=1∧goodClsB a.f2=true∧a.f1=0∨a.f2.toList=[]∧(a.f0=2∧a.f3=[]∨a.f0=3∨a.f0=4∧a.f1=0∧a.f3=[])∧-1000000≤a.f1∧a.f1≤1000000)
theorem actF {es:List S161} {fs ds:List Int} (h:TInv es es.length fs ds) (h60:es.length≤60) (a:S98) (n:Int):∃g n',Ev (fun k=>spec_l2GoodAct.f k es a.f0 a.f1 a.f2 a.f3 n) (g,n')∧impl_Action_good.f fs a.f0 a.f1 a.f2 a.f3 n=some (g,n')∧(g=true→ActOK a∧Chain fs a.f3 n n'):=by
 obtain ⟨kd,K,cls,xs⟩:=a;dsimp only
 obtain ⟨g,n',h1,h2,h3⟩:=actG h h60 xs n;by_cases k1:kd=1
 ·subst k1;by_cases c6:6<xs.length
  ·refine ⟨false,n,?_,?_,fun e=>by cases e⟩
   ·refine Ev.congr (fun k=>by unfold spec_l2GoodAct.f;exact rfl) ?_;exact Ev.ifT rfl (Ev.ifT c6 (Ev.now _))
   ·unfold impl_Action_good.f
    rw [if_pos rfl,if_pos c6];repeat' split
    all_goals rfl
  cases hc:goodClsB cls with
  | false=>
   refine ⟨false,n,?_,?_,fun e=>by cases e⟩
   ·refine Ev.congr (fun k=>by unfold spec_l2GoodAct.f;exact rfl) ?_;refine Ev.ifT rfl (Ev.ifF c6 (Ev.bind (l2GoodCls_some cls) ?_));rw [hc];exact Ev.ifF (by simp) (Ev.now _)
   ·unfold impl_Action_good.f
    rw [if_pos rfl,hc,if_neg (by simp)]
  | true=>
   by_cases c0:K=0
   ·refine ⟨g,n',?_,?_,fun hg=>⟨⟨by dsimp only;omega,Or.inl ⟨rfl,hc,c0⟩⟩,h3 hg⟩⟩
    ·refine Ev.congr (fun k=>by unfold spec_l2GoodAct.f;exact rfl) ?_;refine Ev.ifT rfl (Ev.ifF c6 (Ev.bind (l2GoodCls_some cls) ?_));rw [hc];exact Ev.ifT (by trivial) (Ev.ifT c0 h1)
    ·unfold impl_Action_good.f
     rw [if_pos rfl,hc,if_pos (by trivial),if_pos c0,if_neg c6];exact h2
   ·refine ⟨false,n,?_,?_,fun e=>by cases e⟩
    ·refine Ev.congr (fun k=>by unfold spec_l2GoodAct.f;exact rfl) ?_;refine Ev.ifT rfl (Ev.ifF c6 (Ev.bind (l2GoodCls_some cls) ?_));rw [hc];exact Ev.ifT (by trivial) (Ev.ifF c0 (Ev.now _))
    ·unfold impl_Action_good.f
     rw [if_pos rfl,hc,if_pos (by trivial),if_neg c0]
 by_cases k2:kd=2
 ·subst k2
  have sp:∀r,Ev (fun _=>if xs=[] then (if cls.toList=[] then (if K < -1000000 then some (false,n) else if 1000000<K then some (false,n) else some (true,n)) else some (false,n)) else some (false,n)) r→Ev (fun k=>spec_l2GoodAct.f k es 2 K cls xs n) r:=by
   intro r hr;refine Ev.congr (fun k=>by unfold spec_l2GoodAct.f;exact rfl) ?_;exact Ev.ifF (by decide) (Ev.ifT rfl hr)
  unfold impl_Action_good.f
  rw [if_neg (by decide),if_pos rfl];by_cases c1:xs=[]
  ·by_cases c2:cls.toList=[]
   ·by_cases c3:K < -1000000
    ·exact ⟨false,n,sp _ (Ev.ifT c1 (Ev.ifT c2 (Ev.ifT c3 (Ev.now _)))),by rw [if_pos c2,if_pos c3],fun e=>by cases e⟩
    by_cases c4:1000000<K
    ·exact ⟨false,n,sp _ (Ev.ifT c1 (Ev.ifT c2 (Ev.ifF c3 (Ev.ifT c4 (Ev.now _))))),by rw [if_pos c2,if_neg c3,if_pos c4],fun e=>by cases e⟩
    ·refine ⟨true,n,sp _ (Ev.ifT c1 (Ev.ifT c2 (Ev.ifF c3 (Ev.ifF c4 (Ev.now _))))),by rw [if_pos c2,if_neg c3,if_neg c4,if_pos c1],fun _=>⟨⟨by rw [c1];simp,Or.inr ⟨c2,Or.inl ⟨rfl,c1⟩,by dsimp only;omega,by dsimp only;omega⟩⟩,?_⟩⟩;rw [c1];exact Chain.nil n
   ·exact ⟨false,n,sp _ (Ev.ifT c1 (Ev.ifF c2 (Ev.now _))),by rw [if_neg c2],fun e=>by cases e⟩
  ·refine ⟨false,n,sp _ (Ev.ifF c1 (Ev.now _)),?_,fun e=>by cases e⟩;rw [if_neg c1];repeat' split
   all_goals rfl
 by_cases k3:kd=3
 ·subst k3
  have sp:∀r,Ev (fun k=>if 6<xs.length then some (false,n) else if cls.toList=[] then (if K < -1000000 then some (false,n) else if 1000000<K then some (false,n) else spec_l2GoodAct.g k es xs n) else some (false,n)) r→Ev (fun k=>spec_l2GoodAct.f k es 3 K cls xs n) r:=by
   intro r hr;refine Ev.congr (fun k=>by unfold spec_l2GoodAct.f;exact rfl) ?_;exact Ev.ifF (by decide) (Ev.ifF (by decide) (Ev.ifT rfl hr))
  unfold impl_Action_good.f
  rw [if_neg (by decide),if_neg (by decide),if_pos rfl];by_cases c6:6<xs.length
  ·refine ⟨false,n,sp _ (Ev.ifT c6 (Ev.now _)),?_,fun e=>by cases e⟩;rw [if_pos c6];repeat' split
   all_goals rfl
  by_cases c2:cls.toList=[]
  ·by_cases c3:K < -1000000
   ·exact ⟨false,n,sp _ (Ev.ifF c6 (Ev.ifT c2 (Ev.ifT c3 (Ev.now _)))),by rw [if_pos c2,if_pos c3],fun e=>by cases e⟩
   by_cases c4:1000000<K
   ·exact ⟨false,n,sp _ (Ev.ifF c6 (Ev.ifT c2 (Ev.ifF c3 (Ev.ifT c4 (Ev.now _))))),by rw [if_pos c2,if_neg c3,if_pos c4],fun e=>by cases e⟩
   ·refine ⟨g,n',sp _ (Ev.ifF c6 (Ev.ifT c2 (Ev.ifF c3 (Ev.ifF c4 h1)))),?_,fun hg=>⟨⟨by dsimp only;omega,Or.inr ⟨c2,Or.inr (Or.inl rfl),by dsimp only;omega,by dsimp only;omega⟩⟩,h3 hg⟩⟩;rw [if_pos c2,if_neg c3,if_neg c4,if_neg c6];exact h2
  ·exact ⟨false,n,sp _ (Ev.ifF c6 (Ev.ifF c2 (Ev.now _))),by rw [if_neg c2],fun e=>by cases e⟩
 by_cases k4:kd=4
 ·subst k4
  have sp:∀r,Ev (fun _=>if xs=[] then (if cls.toList=[] then (if K=0 then some (true,n) else some (false,n)) else some (false,n)) else some (false,n)) r→Ev (fun k=>spec_l2GoodAct.f k es 4 K cls xs n) r:=by
   intro r hr;refine Ev.congr (fun k=>by unfold spec_l2GoodAct.f;exact rfl) ?_;exact Ev.ifF (by decide) (Ev.ifF (by decide) (Ev.ifF (by decide) (Ev.ifT rfl hr)))
  unfold impl_Action_good.f
  rw [if_neg (by decide),if_neg (by decide),if_neg (by decide),if_pos rfl];by_cases c1:xs=[]
  ·by_cases c2:cls.toList=[]
   ·by_cases c3:K=0
    ·refine ⟨true,n,sp _ (Ev.ifT c1 (Ev.ifT c2 (Ev.ifT c3 (Ev.now _)))),by rw [if_pos c2,if_pos c3,if_pos c1],fun _=>⟨⟨by rw [c1];simp,Or.inr ⟨c2,Or.inr (Or.inr ⟨rfl,c3,c1⟩),by dsimp only;omega,by dsimp only;omega⟩⟩,?_⟩⟩;rw [c1];exact Chain.nil n
    ·exact ⟨false,n,sp _ (Ev.ifT c1 (Ev.ifT c2 (Ev.ifF c3 (Ev.now _)))),by rw [if_pos c2,if_neg c3],fun e=>by cases e⟩
   ·exact ⟨false,n,sp _ (Ev.ifT c1 (Ev.ifF c2 (Ev.now _))),by rw [if_neg c2],fun e=>by cases e⟩
  ·refine ⟨false,n,sp _ (Ev.ifF c1 (Ev.now _)),?_,fun e=>by cases e⟩;rw [if_neg c1];repeat' split
   all_goals rfl
 ·refine ⟨false,n,?_,?_,fun e=>by cases e⟩
  ·refine Ev.congr (fun k=>by unfold spec_l2GoodAct.f;exact rfl) ?_;exact Ev.ifF k1 (Ev.ifF k2 (Ev.ifF k3 (Ev.ifF k4 (Ev.now _))))
  ·unfold impl_Action_good.f
   rw [if_neg k1,if_neg k2,if_neg k3,if_neg k4]
inductive Chains (fs:List Int):List S98→Int→Int→Prop
 | nil (n:Int):Chains fs [] n n
 | cons (a:S98) (as_:List S98) (n m n':Int) (ha:ActOK a) (h1:Chain fs a.f3 n m) (h2:Chains fs as_ m n'):Chains fs (a::as_) n n'
theorem shapeA {es:List S161} {fs ds:List Int} (h:TInv es es.length fs ds) (h60:es.length≤60):∀(as_:List S98) (i:Nat) (n:Int),∃v n',Ev (fun k=>spec_l2Shape.a k es as_ i n) (v,n')∧sf_a fs as_ i n=some (v,n')∧(v=-1∧Chains fs as_ n n'∨0≤v):=by
 intro as_;induction as_ with
 | nil=>intro i n;exact ⟨-1,n,Ev.now _,rfl,Or.inl ⟨rfl,Chains.nil n⟩⟩
 | cons a as_ ih=>
  intro i n;obtain ⟨g,m,h1,h2,h3⟩:=actF h h60 a n;cases g with
  | true=>
   obtain ⟨v,n',h4,h5,h6⟩:=ih (i+1) m;refine ⟨v,n',?_,?_,h6.imp (fun q=>⟨q.1,Chains.cons a as_ n m n' (h3 rfl).1 (h3 rfl).2 q.2⟩) id⟩
   ·refine Ev.congr (fun k=>by unfold spec_l2Shape.a;exact rfl) ?_;exact Ev.bind h1 (Ev.ifT (by trivial) h4)
   ·unfold sf_a
    rw [h2];simp only [Option.bind_some];rw [if_pos (by trivial)];exact h5
  | false=>
   refine ⟨(i:Int)+1,m,?_,?_,Or.inr (by omega)⟩
   ·refine Ev.congr (fun k=>by unfold spec_l2Shape.a;exact rfl) ?_;exact Ev.bind h1 (Ev.ifF (by simp) (Ev.now _))
   ·unfold sf_a
    rw [h2];simp only [Option.bind_some];rw [if_neg (by simp)]
theorem shapeP:∀(ps:List S42) (i:Nat),Ev (fun k=>spec_l2Shape.p k ps i) (sf_p ps i)∧(sf_p ps i=-1∧(∀p,p∈ps→goodPatB p.f1 p.f2=true)∨0≤sf_p ps i):=by
 intro ps;induction ps with
 | nil=>intro i;exact ⟨Ev.now _,Or.inl ⟨rfl,fun p hp=>by cases hp⟩⟩
 | cons p ps ih=>
  intro i;obtain ⟨h1,h2⟩:=ih (i+1);unfold sf_p
  cases hg:goodPatB p.f1 p.f2 with
  | true=>
   rw [if_pos (by trivial)];refine ⟨?_,h2.imp (fun q=>⟨q.1,fun r hr=>?_⟩) id⟩
   ·refine Ev.congr (fun k=>by unfold spec_l2Shape.p;exact rfl) ?_;refine Ev.bind (l2GoodPat_some _ _ _) ?_;rw [hg];exact Ev.ifT (by trivial) h1
   ·rcases List.mem_cons.1 hr with e|e
    ·rw [e];exact hg
    ·exact q.2 r e
  | false=>
   rw [if_neg (by simp)];refine ⟨?_,Or.inr (by omega)⟩;refine Ev.congr (fun k=>by unfold spec_l2Shape.p;exact rfl) ?_;refine Ev.bind (l2GoodPat_some _ _ _) ?_;rw [hg];exact Ev.ifF (by simp) (Ev.now _)
def ShapeOK (nm:ByteArray) (ps:List S42) (es:List S161) (as_:List S98):Prop:=
 goodSymB nm=true∧ps.length≤6∧as_.length≤8∧es.length≤60∧(∀p,p∈ps→goodPatB p.f1 p.f2=true)∧∃fs ds,TInv es es.length fs ds∧Chains fs as_ 0 (es.length:Int)
theorem shape_both (nm:ByteArray) (sa:Int) (ps:List S42) (es:List S161) (as_:List S98) (hb:∀e,e∈es→okByte e.f1):
  ∃v,Ev (fun k=>spec_l2Shape.f k nm sa ps es as_) v∧impl_Rule_shapeFault.f nm sa ps es as_=some v∧(v=-1∧ShapeOK nm ps es as_∨0≤v):=by
 have start:∀r,Ev (fun k=>if goodSymB nm=true then (if 6<ps.length then some 0 else if 8<as_.length then some 0 else if 60<es.length then some 0 else
  (spec_l2Shape.p k ps 0).bind fun p=>if p=-1 then (spec_l2Shape.e k es es.length 0).bind fun e=>if e=-1 then (spec_l2Shape.a k es as_ 0 0).bind fun a=>if a.1=-1 then (if a.2=(es.length:Int) then some (-1) else some ((as_.length:Int)+1)) else some a.1 else some e else some p) else some 0) r→Ev (fun k=>spec_l2Shape.f k nm sa ps es as_) r:=by
  intro r hr;refine Ev.congr (fun k=>by unfold spec_l2Shape.f;exact rfl) ?_;exact Ev.bind (l1GoodSym_some nm) hr
 unfold impl_Rule_shapeFault.f
 cases hs:goodSymB nm with
 | false=>
  refine ⟨0,start _ ?_,by rw [if_neg (by simp)],Or.inr (by omega)⟩;rw [hs];exact Ev.ifF (by simp) (Ev.now _)
 | true=>
 rw [hs] at start;rw [if_pos (by trivial)];by_cases c1:6<ps.length
 ·exact ⟨0,start _ (Ev.ifT (by trivial) (Ev.ifT c1 (Ev.now _))),by rw [if_pos c1],Or.inr (by omega)⟩
 by_cases c2:8<as_.length
 ·exact ⟨0,start _ (Ev.ifT (by trivial) (Ev.ifF c1 (Ev.ifT c2 (Ev.now _)))),by rw [if_neg c1,if_pos c2],Or.inr (by omega)⟩
 by_cases c3:60<es.length
 ·exact ⟨0,start _ (Ev.ifT (by trivial) (Ev.ifF c1 (Ev.ifF c2 (Ev.ifT c3 (Ev.now _))))),by rw [if_neg c1,if_neg c2,if_pos c3],Or.inr (by omega)⟩
 rw [if_neg c1,if_neg c2,if_neg c3];replace start:=fun r hr=>start r (Ev.ifT (by trivial) (Ev.ifF c1 (Ev.ifF c2 (Ev.ifF c3 hr))))
 obtain ⟨hp1,hp2⟩:=shapeP ps 0;rcases hp2 with ⟨hp2,hp3⟩|hp2
 rotate_left
 ·refine ⟨sf_p ps 0,start _ ?_,by rw [if_neg (by omega)],Or.inr hp2⟩;exact Ev.bind hp1 (Ev.ifF (by omega) (Ev.now _))
 rw [if_pos hp2];obtain ⟨e,fs,ds,he1,he2,he3⟩:=shapeE (by omega) hb es.length 0 (by omega) [] [] ⟨rfl,rfl,fun j hj=>absurd hj (Nat.not_lt_zero _),fun j hj=>absurd hj (Nat.not_lt_zero _)⟩;rw [he2];simp only [Option.bind_some];rcases he3 with ⟨he3,hT⟩|he3
 rotate_left
 ·refine ⟨e,start _ ?_,by rw [if_neg (by omega)],Or.inr he3⟩;exact Ev.bind hp1 (Ev.ifT hp2 (Ev.bind he1 (Ev.ifF (by omega) (Ev.now _))))
 rw [if_pos he3];obtain ⟨a,n,ha1,ha2,ha3⟩:=shapeA hT (by omega) as_ 0 0;rw [ha2];simp only [Option.bind_some];rcases ha3 with ⟨ha3,hC⟩|ha3
 rotate_left
 ·refine ⟨a,start _ ?_,by rw [if_neg (by omega)],Or.inr ha3⟩;exact Ev.bind hp1 (Ev.ifT hp2 (Ev.bind he1 (Ev.ifT he3 (Ev.bind ha1 (Ev.ifF (by dsimp only;omega) (Ev.now _))))))
 rw [if_pos ha3];by_cases hn:n=(es.length:Int)
 ·refine ⟨-1,start _ ?_,by rw [if_pos hn],Or.inl ⟨rfl,hs,by omega,by omega,by omega,hp3,fs,ds,hT,by rw [←hn];exact hC⟩⟩;exact Ev.bind hp1 (Ev.ifT hp2 (Ev.bind he1 (Ev.ifT he3 (Ev.bind ha1 (Ev.ifT (by exact ha3) (Ev.ifT (by exact hn) (Ev.now _)))))))
 ·refine ⟨(as_.length:Int)+1,start _ ?_,by rw [if_neg hn],Or.inr (by omega)⟩;exact Ev.bind hp1 (Ev.ifT hp2 (Ev.bind he1 (Ev.ifT he3 (Ev.bind ha1 (Ev.ifT (by exact ha3) (Ev.ifF (by exact hn) (Ev.now _)))))))
end Go.Proofs.YtahambloheoebaaGreatDoor.Pure
namespace Go.Proofs.YtahambloheoebaaGreatDoor.Pure
open Go.RowKit Go.Proofs.YtahambloheoebaaGreatDoor.P Go.Proofs.YtahambloheoebaaGreatDoorW.PrintWords Go.Proofs.YtahambloheoebaaGreatDoorW.PrintLast Go.Proofs.YtahambloheoebaaGreatDoorX
set_option linter.unusedVariables false
set_option linter.unusedSimpArgs false
theorem memB_eq (s:ByteArray) (L:List ByteArray):memB s L=memS s L:=by
 induction L with
 | nil=>rfl
 | cons u r ih=>
  have e:(s.toList==u.toList)=(u.toList==s.toList):=by
   rw [Bool.eq_iff_iff,beq_iff_eq,beq_iff_eq];exact eq_comm
  show ((s.toList==u.toList) || memB s r)=((u.toList==s.toList) || memS s r);rw [e,ih]
theorem memS_app (s:ByteArray):∀a b:List ByteArray,memS s (a++b)=(memS s a || memS s b)
 | [],b=>by simp [memS]
 | x::a,b=>by simp [memS,memS_app s a b,Bool.or_assoc]
theorem memS_snoc (s x:ByteArray) (a:List ByteArray):memS s (a++[x])=(memS s a || (x.toList==s.toList)):=by
 rw [memS_app];simp [memS]
theorem wrap2 (p m:Nat) (hp:p≤6) (hm:m<8):wrap64 (wrap64 ((p:Int)+(m:Int))+1)=(p:Int)+(m:Int)+1:=by
 have e1:wrap64 ((p:Int)+(m:Int))=(p:Int)+(m:Int):=by unfold wrap64;omega
 rw [e1];unfold wrap64;omega
section
variable (nm:ByteArray) (sa:Int) (ps:List S42) (es:List S161) (as_:List S98)
theorem scopeT (i:Nat) (hi:i<6) (kn:List ByteArray) (ts:List S86) (ts2:List S86) (neg:Bool) (cls:ByteArray) (K:List ByteArray) (hts:ts.length≤6) (hsz:∀t,t∈ts→t.f2.size≤maxLen):
  ∀j,j≤ts.length→∀(H L:List ByteArray),(∀s,memS s H=(memS s K || memS s L))→H.length+(ts.length-j)≤1000→
  ∃y H',sc_t K (ts.drop j) L=some y∧(∀s,memS s H'=(memS s K || memS s y.2))∧H'.length≤H.length+(ts.length-j)∧
   ∀r,(y.1=false→r=(i:Int)+1)→(y.1=true→Ev (fun k=>if neg=true then spec_l2Scope.l0 k kn ps (ps.length:Int) ((i+1:Nat):Int) nm sa ps es as_ else spec_l2Scope.l0 k H' ps (ps.length:Int) ((i+1:Nat):Int) nm sa ps es as_) r)→
    Ev (fun k=>spec_l2Scope.l1 k kn (i:Int) H ps (ps.length:Int) (i:Int) ts (ts.length:Int) (j:Int) nm sa ps es as_ neg cls ts2) r:=by
 refine up_ind ?_ ?_
 ·intro H L hm _;refine ⟨(true,L),H,?_,hm,by omega,?_⟩
  ·rw [List.drop_length];rfl
  ·intro r _ h2;refine Ev.step (fun k=>by simp only [spec_l2Scope.l1,wrap_succ (show i<6 from hi) (show 6≤9223372036854775807 by omega)];exact rfl) ?_;exact Ev.ifF (by omega) (h2 rfl)
 ·intro j hj ih H L hm hb;have hrd:rd_T86 ts (j:Int)=ts.getD j z86:=by simp [rd_T86]
  rw [drop_getD z86 hj];have hs:=hsz _ (getD_in z86 hj);generalize ts.getD j z86=t at *;have go:∀(b:Bool) (H1 L1:List ByteArray) (y:Bool×List ByteArray) (H':List ByteArray) (rest:Nat→Option Int) (r:Int),True:=fun _ _ _ _ _ _ _=>trivial
  clear go;unfold sc_t
  rw [if_pos hs]
  have stepJ:∀(x45:Bool) (r:Int),(x45=true→r=(i:Int)+1)→(x45=false→Ev (fun k=>if t.f0=2 then (if H.length<8796093022208 then spec_l2Scope.l1 k kn (i:Int) (H++[t.f2]) ps (ps.length:Int) (i:Int) ts (ts.length:Int) ((j+1:Nat):Int) nm sa ps es as_ neg cls ts2 else none) else spec_l2Scope.l1 k kn (i:Int) H ps (ps.length:Int) (i:Int) ts (ts.length:Int) ((j+1:Nat):Int) nm sa ps es as_ neg cls ts2) r)→
    Ev (fun k=>spec_l2Scope.j2 k kn (i:Int) H ps (ps.length:Int) (i:Int) ts (ts.length:Int) (j:Int) x45 nm sa ps es as_ neg cls ts2 t.f0 t.f1 t.f2 t.f3.f0 t.f3.f1 t.f3.f2) r:=by
   intro x45 r h1 h2;refine Ev.step (fun k=>by simp only [spec_l2Scope.j2,wrap_succ hj (show ts.length≤9223372036854775807 by omega)];exact rfl) ?_;cases x45 with
   | true=>
    refine Ev.ifT (by trivial) (Ev.as (Ev.now _) ?_);rw [h1 rfl];unfold wrap64;omega
   | false=>exact Ev.ifF (by simp) (h2 rfl)
  have stepL:∀r,Ev (fun k=>if t.f0=3 then (if t.f2.toList=([]:List UInt8) then (spec_l2Scope.j2 k kn (i:Int) H ps (ps.length:Int) (i:Int) ts (ts.length:Int) (j:Int) false nm sa ps es as_ neg cls ts2 t.f0 t.f1 t.f2 t.f3.f0 t.f3.f1 t.f3.f2) else (spec_l2Is.f k t.f2 H).bind fun q=>spec_l2Scope.j2 k kn (i:Int) H ps (ps.length:Int) (i:Int) ts (ts.length:Int) (j:Int) (!q) nm sa ps es as_ neg cls ts2 t.f0 t.f1 t.f2 t.f3.f0 t.f3.f1 t.f3.f2) else spec_l2Scope.j2 k kn (i:Int) H ps (ps.length:Int) (i:Int) ts (ts.length:Int) (j:Int) false nm sa ps es as_ neg cls ts2 t.f0 t.f1 t.f2 t.f3.f0 t.f3.f1 t.f3.f2) r→
    Ev (fun k=>spec_l2Scope.l1 k kn (i:Int) H ps (ps.length:Int) (i:Int) ts (ts.length:Int) (j:Int) nm sa ps es as_ neg cls ts2) r:=by
   intro r hr;refine Ev.step (fun k=>by simp only [spec_l2Scope.l1,hrd];exact rfl) ?_;exact Ev.ifT (by omega) (Ev.ifT (by omega) (Ev.ifT (by omega) hr))
  by_cases k2:t.f0=2
  ·rw [if_neg (by omega),if_pos k2]
   have hm2:∀s,memS s (H++[t.f2])=(memS s K || memS s (t.f2::L)):=by
    intro s;rw [memS_snoc,hm s];simp only [memS];cases memS s K<;>cases memS s L<;>cases (t.f2.toList==s.toList)<;>rfl
   obtain ⟨y,H',h1,h2,h3,h4⟩:=ih (H++[t.f2]) (t.f2::L) hm2 (by simp;omega);refine ⟨y,H',h1,h2,by simp at h3;omega,fun r r1 r2=>stepL r (Ev.ifF (by omega) (stepJ _ _ (fun e=>by cases e) (fun _=>Ev.ifT k2 (Ev.ifT (by omega) (h4 r r1 r2)))))⟩
  ·obtain ⟨y,H',h1,h2,h3,h4⟩:=ih H L hm (by omega)
   have cont:∀r,(y.1=false→r=(i:Int)+1)→(y.1=true→Ev (fun k=>if neg=true then spec_l2Scope.l0 k kn ps (ps.length:Int) ((i+1:Nat):Int) nm sa ps es as_ else spec_l2Scope.l0 k H' ps (ps.length:Int) ((i+1:Nat):Int) nm sa ps es as_) r)→Ev (fun k=>spec_l2Scope.j2 k kn (i:Int) H ps (ps.length:Int) (i:Int) ts (ts.length:Int) (j:Int) false nm sa ps es as_ neg cls ts2 t.f0 t.f1 t.f2 t.f3.f0 t.f3.f1 t.f3.f2) r:=
    fun r r1 r2=>stepJ _ _ (fun e=>by cases e) (fun _=>Ev.ifF k2 (h4 r r1 r2))
   by_cases k3:t.f0=3
   ·cases hemp:t.f2.toList.isEmpty with
    | true=>
     rw [if_neg (fun q=>by have:=q.2.1;cases this),if_neg k2];exact ⟨y,H',h1,h2,by omega,fun r r1 r2=>stepL r (Ev.ifT k3 (Ev.ifT ((toList_nil_iff _).2 hemp) (cont r r1 r2)))⟩
    | false=>
     have hne:¬t.f2.toList=([]:List UInt8):=by rw [toList_nil_iff,hemp];simp
     have his:=l2Is_some t.f2 H (by omega);rw [memB_eq,hm t.f2] at his;cases hk:memS t.f2 K with
     | true=>
      rw [hk,Bool.true_or] at his;rw [if_neg (fun q=>by have:=q.2.2.1;cases this),if_neg k2];exact ⟨y,H',h1,h2,by omega,fun r r1 r2=>stepL r (Ev.ifT k3 (Ev.ifF hne (Ev.bind his (cont r r1 r2))))⟩
     | false=>
      rw [hk,Bool.false_or] at his;cases hl:memS t.f2 L with
      | true=>
       rw [hl] at his;rw [if_neg (fun q=>by have:=q.2.2.2;cases this),if_neg k2];exact ⟨y,H',h1,h2,by omega,fun r r1 r2=>stepL r (Ev.ifT k3 (Ev.ifF hne (Ev.bind his (cont r r1 r2))))⟩
      | false=>
       rw [hl] at his;rw [if_pos ⟨k3,rfl,rfl,rfl⟩];exact ⟨(false,L),H,rfl,hm,by omega,fun r r1 _=>stepL r (Ev.ifT k3 (Ev.ifF hne (Ev.bind his (stepJ _ _ (fun _=>r1 rfl) (fun e=>by cases e)))))⟩
   ·rw [if_neg (fun q=>k3 q.1),if_neg k2];exact ⟨y,H',h1,h2,by omega,fun r r1 r2=>stepL r (Ev.ifF k3 (cont r r1 r2))⟩
theorem scopeP (hps:ps.length≤6) (htl:∀p,p∈ps→p.f2.length≤6∧∀t,t∈p.f2→t.f2.size≤maxLen):∀i,i≤ps.length→∀(kn K:List ByteArray),(∀s,memS s kn=memS s K)→kn.length≤6 * i→
  ∃y kn',sc_p (ps.drop i) i K=some y∧(∀s,memS s kn'=memS s y.2)∧kn'.length≤36∧(y.1=-1∨0≤y.1)∧
   ∀r,(0≤y.1→r=y.1)→(y.1=-1→Ev (fun k=>spec_l2Scope.l2 k kn' as_ (as_.length:Int) 0 nm sa ps es as_) r)→Ev (fun k=>spec_l2Scope.l0 k kn ps (ps.length:Int) (i:Int) nm sa ps es as_) r:=by
 refine up_ind ?_ ?_
 ·intro kn K hm hl;refine ⟨(-1,K),kn,?_,hm,by omega,Or.inl rfl,?_⟩
  ·rw [List.drop_length];rfl
  ·intro r _ h2;refine Ev.step (fun k=>by simp only [spec_l2Scope.l0];exact rfl) ?_;exact Ev.ifF (by omega) (h2 rfl)
 ·intro i hi ih kn K hm hl;have hrd:rd_T42 ps (i:Int)=ps.getD i z42:=by simp [rd_T42]
  rw [drop_getD z42 hi];obtain ⟨ht1,ht2⟩:=htl _ (getD_in z42 hi);generalize ps.getD i z42=p at *
  have hm0:∀s,memS s (([]:List ByteArray)++kn)=(memS s K || memS s []):=by
   intro s;rw [List.nil_append,hm s];simp [memS]
  obtain ⟨y,H',h1,h2,h3,h4⟩:=scopeT nm sa ps es as_ i (by omega) kn p.f2 p.f2 p.f0 p.f1 K ht1 ht2 0 (Nat.zero_le _) (([]:List ByteArray)++kn) [] hm0 (by simp;omega);rw [List.drop_zero] at h1
  have start:∀r,Ev (fun k=>spec_l2Scope.l1 k kn (i:Int) (([]:List ByteArray)++kn) ps (ps.length:Int) (i:Int) p.f2 (p.f2.length:Int) ((0:Nat):Int) nm sa ps es as_ p.f0 p.f1 p.f2) r→Ev (fun k=>spec_l2Scope.l0 k kn ps (ps.length:Int) (i:Int) nm sa ps es as_) r:=by
   intro r hr;refine Ev.step (fun k=>by simp only [spec_l2Scope.l0,hrd];exact rfl) ?_;exact Ev.ifT (by omega) (Ev.ifT (by omega) (Ev.ifT (by omega) (Ev.ifT (by simp;omega) hr)))
  unfold sc_p
  rw [if_pos ht1,h1];simp only [Option.bind_some];obtain ⟨ok,L'⟩:=y;cases ok with
  | false=>
   rw [if_neg (by simp)];refine ⟨((i:Int)+1,K),kn,rfl,hm,by omega,Or.inr (by dsimp only;omega),fun r r1 r2=>start r (h4 r (fun _=>r1 (by dsimp only;omega)) (fun e=>by cases e))⟩
  | true=>
   rw [if_pos (by trivial)];dsimp only at h2 h4
   cases hneg:p.f0 with
   | true=>
    rw [if_pos (by trivial)];obtain ⟨y,kn',g1,g2,g3,g4,g5⟩:=ih kn K hm (by omega);refine ⟨y,kn',g1,g2,g3,g4,fun r r1 r2=>start r (h4 r (fun e=>by cases e) (fun _=>Ev.ifT hneg (g5 r r1 r2)))⟩
   | false=>
    rw [if_neg (by simp)]
    have hm2:∀s,memS s H'=memS s (L'++K):=by
     intro s;rw [h2 s,memS_app];cases memS s K<;>cases memS s L'<;>rfl
    obtain ⟨y,kn',g1,g2,g3,g4,g5⟩:=ih H' (L'++K) hm2 (by simp at h3;omega);refine ⟨y,kn',g1,g2,g3,g4,fun r r1 r2=>start r (h4 r (fun e=>by cases e) (fun _=>Ev.ifF (by rw [hneg];simp) (g5 r r1 r2)))⟩
def fineE (K:List ByteArray) (e:S161):Bool:=!(e.f0==1 && !(memS e.f2 K))
def allF (es:List S161) (K:List ByteArray):Nat→Nat→Bool
 | 0,_=>true
 | d+1,k=>fineE K (exA es k)&&allF es K d (k+1)
theorem allF_add (K:List ByteArray):∀a b k,allF es K (a+b) k=(allF es K a k&&allF es K b (k+a))
 | 0,b,k=>by simp [allF]
 | a+1,b,k=>by
  rw [show a+1+b=(a+b)+1 by omega];simp only [allF];rw [allF_add K a b (k+1),Bool.and_assoc,show k+1+a=k+(a+1) by omega]
theorem scE (hsz:∀e,e∈es→e.f2.size≤maxLen) (K:List ByteArray) (x:Nat) (hx:x<es.length):∀d fu k,k+d=x+1→d≤fu→∃k',sc_e es K fu (k:Int) (x:Int)=some (allF es K d k,k')∧(allF es K d k=true→k'=(x:Int)+1):=by
 intro d;induction d with
 | zero=>
  intro fu k hk _;refine ⟨(k:Int),?_,fun _=>by omega⟩;cases fu<;>(unfold sc_e;rw [if_neg (by omega)];rfl)
 | succ d ih=>
  intro fu k hk hf;cases fu with
  | zero=>omega
  | succ fu=>
   have hlt:k<es.length:=by omega
   have hin:(exA es k).f2.size≤maxLen:=hsz _ (by unfold exA;exact getD_in _ hlt)
   unfold sc_e
   rw [if_pos (by omega),rdE,if_pos ⟨by omega,by omega,hin⟩];simp only [allF,fineE];by_cases c:(exA es k).f0=1∧memS (exA es k).f2 K=false
   ·rw [if_pos c];refine ⟨(k:Int),?_,fun e=>?_⟩
    ·rw [c.1,c.2];simp
    ·rw [c.1,c.2] at e;simp at e
   ·rw [if_neg c];obtain ⟨k',h1,h2⟩:=ih fu (k+1) (by omega) (by omega)
    have e:(!((exA es k).f0==1 && !memS (exA es k).f2 K))=true:=by
     rw [Bool.not_eq_true',Bool.eq_false_iff];intro q;rw [Bool.and_eq_true,beq_iff_eq,Bool.not_eq_true'] at q;exact c q
    rw [e,Bool.true_and];refine ⟨k',?_,h2⟩;rw [←h1];congr 1
theorem scArgs {fs ds:List Int} (hT:TInv es es.length fs ds) (hsz:∀e,e∈es→e.f2.size≤maxLen) (K:List ByteArray):∀(xs:List Int) (n n':Int),Chain fs xs n n'→∀kn:Nat,n=(kn:Int)→
  ∃kn':Nat,n'=(kn':Int)∧kn≤kn'∧kn'≤max kn es.length∧(∃k',sc_args es K xs n=some (allF es K (kn'-kn) kn,k')∧(allF es K (kn'-kn) kn=true→k'=n'))∧(xs≠[]→rd xs ((xs.length:Int)-1)=n'-1∧kn<kn'):=by
 intro xs n n' hC;induction hC with
 | nil n=>
  intro kn hn;refine ⟨kn,hn,Nat.le_refl _,by omega,⟨n,?_,fun _=>rfl⟩,fun h=>absurd rfl h⟩;rw [Nat.sub_self];rfl
 | cons x xs n n' hx hf hC ih=>
  intro kn hn;have hlx:x<es.length:=by have:=hT.lf;omega
  have hx2:=hT.at_ x hlx;obtain ⟨kn',h1,h2,h3,⟨k',h4,h5⟩,h6⟩:=ih (x+1) (by omega);have hle:kn≤x:=by omega
  obtain ⟨k1,g1,g2⟩:=scE es hsz K x hlx (x+1-kn) es.length kn (by omega) (by omega);have hsp:kn'-kn=(x+1-kn)+(kn'-(x+1)):=by omega
  refine ⟨kn',h1,by omega,by omega,?_,fun _=>?_⟩
  ·rw [hsp,allF_add,show kn+(x+1-kn)=x+1 by omega];unfold sc_args
   rw [hn,g1];simp only [Option.bind_some];cases ha:allF es K (x+1-kn) kn with
   | false=>exact ⟨k1,by rw [if_neg (by simp)];rfl,fun e=>by simp at e⟩
   | true=>
    rw [if_pos (by trivial),g2 ha,Bool.true_and];exact ⟨k',h4,h5⟩
  ·by_cases hxs:xs=[]
   ·subst hxs;have:=chain_nil hC
    refine ⟨?_,by omega⟩;rw [this];simp [rd]
   ·obtain ⟨q1,q2⟩:=h6 hxs;refine ⟨?_,by omega⟩;rw [←q1];have hl:0<xs.length:=List.length_pos_iff.2 hxs
    obtain ⟨m,hm⟩:∃m,xs.length=m+1:=⟨xs.length-1,by omega⟩;unfold rd
    rw [List.length_cons,hm,show (((m+1+1:Nat):Int)-1).toNat=m+1 by omega,show (((m+1:Nat):Int)-1).toNat=m by omega,List.getD_cons_succ]
theorem scanSpec (hsz:es.length≤60) (hp6:ps.length≤6) (m:Nat) (hm:m<8) (kn K:List ByteArray) (hkn:∀s,memS s kn=memS s K) (hkl:kn.length≤36) (a:S98) (n':Nat) (hn':n'≤es.length) (hne:a.f3≠[]) (hal:a.f3.length≤9223372036854775807) (hlast:rd a.f3 ((a.f3.length:Int)-1)=(n':Int)-1):
  ∀d k,k+d=n'→∀r,(allF es K d k=false→r=(ps.length:Int)+(m:Int)+1)→(allF es K d k=true→Ev (fun f=>spec_l2Scope.l2 f kn as_ (as_.length:Int) ((m+1:Nat):Int) nm sa ps es as_) r)→
   Ev (fun f=>spec_l2Scope.l3 f kn (m:Int) (k:Int) as_ (as_.length:Int) (m:Int) nm sa ps es as_ a.f0 a.f1 a.f2 a.f3) r:=by
 have hl:0<a.f3.length:=List.length_pos_iff.2 hne
 have hw:wrap64 ((a.f3.length:Int)-1)=(a.f3.length:Int)-1:=by unfold wrap64;omega
 intro d;induction d with
 | zero=>
  intro k hk r _ h2;refine Ev.step (fun f=>by simp only [spec_l2Scope.l3,hw,hlast,wrap_succ hm (show 8≤9223372036854775807 by omega)];exact rfl) ?_;exact Ev.ifT (by omega) (Ev.ifT (by omega) (Ev.ifF (by omega) (h2 rfl)))
 | succ d ih=>
  intro k hk r h1 h2;have hlt:k<es.length:=by omega
  refine Ev.step (fun f=>by simp only [spec_l2Scope.l3,hw,hlast,wrap_succ hlt (show es.length≤9223372036854775807 by omega),rdE];exact rfl) ?_;refine Ev.ifT (by omega) (Ev.ifT (by omega) (Ev.ifT (by omega) (Ev.ifT (by omega) (Ev.ifT (by omega) ?_))));simp only [allF,fineE] at h1 h2
  have rest:fineE K (exA es k)=true→Ev (fun f=>spec_l2Scope.l3 f kn (m:Int) ((k+1:Nat):Int) as_ (as_.length:Int) (m:Int) nm sa ps es as_ a.f0 a.f1 a.f2 a.f3) r:=by
   intro e;unfold fineE at e
   rw [e,Bool.true_and] at h1 h2;exact ih (k+1) (by omega) r h1 h2
  refine Ev.ite (fun c=>?_) (fun c=>?_)
  ·have his:=l2Is_some (exA es k).f2 kn (by omega);rw [memB_eq,hkn] at his;refine Ev.bind his ?_;cases hme:memS (exA es k).f2 K with
   | true=>exact Ev.ifT (by trivial) (rest (by unfold fineE;rw [hme];simp))
   | false=>
    refine Ev.ifF (by simp) (Ev.as (Ev.now _) ?_);rw [h1 (by rw [c,hme];simp)];exact wrap2 ps.length m hp6 hm
  ·exact rest (by unfold fineE;rw [beq_eq_false_iff_ne.2 c];rfl)
theorem scopeA {fs ds:List Int} (hT:TInv es es.length fs ds) (h60:es.length≤60) (hp6:ps.length≤6) (ha8:as_.length≤8) (hsz:∀e,e∈es→e.f2.size≤maxLen) (kn K:List ByteArray) (hkn:∀s,memS s kn=memS s K) (hkl:kn.length≤36):
  ∀m,m≤as_.length→∀(n n':Int) (nn:Nat),n=(nn:Int)→nn≤es.length→Chains fs (as_.drop m) n n'→
  ∃v,sc_acts es K ps.length (as_.drop m) m n=some v∧(v=-1∨0≤v)∧Ev (fun k=>spec_l2Scope.l2 k kn as_ (as_.length:Int) (m:Int) nm sa ps es as_) v:=by
 refine up_ind ?_ ?_
 ·intro n n' nn _ _ _;refine ⟨-1,?_,Or.inl rfl,?_⟩
  ·rw [List.drop_length];rfl
  ·refine Ev.step (fun k=>by simp only [spec_l2Scope.l2];exact rfl) ?_;exact Ev.ifF (by omega) (Ev.now _)
 ·intro m hm ih n n' nn hn hnn hC;have hrd:rd_T98 as_ (m:Int)=as_.getD m z98:=by simp [rd_T98]
  rw [drop_getD z98 hm] at hC ⊢;generalize as_.getD m z98=a at *;cases hC with
  | cons _ _ _ n1 _ hOK h1 h2=>
  obtain ⟨kn1,g1,g2,g3,⟨k',g4,g5⟩,g6⟩:=scArgs es hT hsz K a.f3 n n1 h1 nn hn;obtain ⟨v,e1,e2,e3⟩:=ih n1 n' kn1 g1 (by omega) h2
  have start:∀r,Ev (fun k=>if (a.f3.length:Int)=0 then (spec_l2Scope.l2 k kn as_ (as_.length:Int) ((m+1:Nat):Int) nm sa ps es as_) else (if 0<(a.f3.length:Int) then ((spec_l2First.f k es (rd a.f3 0)).bind fun t188=>(spec_l2Scope.l3 k kn (m:Int) t188 as_ (as_.length:Int) (m:Int) nm sa ps es as_ a.f0 a.f1 a.f2 a.f3)) else (none))) r→Ev (fun k=>spec_l2Scope.l2 k kn as_ (as_.length:Int) (m:Int) nm sa ps es as_) r:=by
   intro r hr;refine Ev.step (fun k=>by simp only [spec_l2Scope.l2,hrd,wrap_succ hm (show as_.length≤9223372036854775807 by omega)];exact rfl) ?_;exact Ev.ifT (by omega) (Ev.ifT (by omega) (Ev.ifT (by omega) hr))
  unfold sc_acts
  rw [g4];simp only [Option.bind_some];by_cases hne:a.f3=[]
  ·have hnn1:n1=n:=by rw [hne] at h1;exact chain_nil h1
   have hkk:kn1=nn:=by omega
   rw [hkk,Nat.sub_self] at g5 ⊢;rw [if_pos (by rfl),g5 rfl];refine ⟨v,e1,e2,start _ (Ev.ifT (by rw [hne];rfl) e3)⟩
  ·obtain ⟨q1,q2⟩:=g6 hne;have hl:0<a.f3.length:=List.length_pos_iff.2 hne
   have hfirst:Ev (fun k=>spec_l2First.f k es (rd a.f3 0)) n:=by
    obtain ⟨f0,f1,f2,f3⟩:=a;dsimp only at h1 hne ⊢
    cases h1 with
    | nil=>exact absurd rfl hne
    | cons x xs _ _ hx hf _=>
     have:=first_ev hT (Nat.le_refl _) x (by have:=hT.lf;omega)
     rw [hf] at this;exact this
   have scan:=scanSpec nm sa ps es as_ h60 hp6 m (by omega) kn K hkn hkl a kn1 (by omega) hne (by have:=hOK.1;omega) (by rw [q1,g1]) (kn1-nn) nn (by omega);cases hall:allF es K (kn1-nn) nn with
   | true=>
    rw [if_pos (by trivial),g5 hall];refine ⟨v,e1,e2,start _ (Ev.ifF (by omega) (Ev.ifT (by omega) (Ev.bind hfirst ?_)))⟩;rw [hn];exact scan v (fun e=>by rw [hall] at e;cases e) (fun _=>e3)
   | false=>
    rw [if_neg (by simp)];refine ⟨(ps.length:Int)+(m:Int)+1,rfl,Or.inr (by omega),start _ (Ev.ifF (by omega) (Ev.ifT (by omega) (Ev.bind hfirst ?_)))⟩;rw [hn];exact scan _ (fun _=>rfl) (fun e=>by rw [hall] at e;cases e)
end
theorem goodTerm_size (t:S86) (h:goodTermB t=true):t.f2.size≤20:=by
 have e0:t.f2.toList.isEmpty=true→t.f2.size=0:=by
  intro e;rw [ByteArray.toList_eq,List.isEmpty_iff] at e;have:=congrArg List.length e
  rw [Array.length_toList] at this;simpa using this
 have e1:goodSymB t.f2=true→t.f2.size≤20:=by
  intro e;unfold goodSymB at e
  split at e
  ·cases e
  split at e
  ·cases e
  omega
 unfold goodTermB at h
 split at h
 ·simp only [Bool.and_eq_true] at h;rw [e0 h.2.1];omega
 split at h
 ·simp only [Bool.and_eq_true] at h;rw [e0 h.1.2];omega
 split at h
 ·simp only [Bool.and_eq_true] at h;exact e1 h.2
 split at h
 ·split at h
  ·cases h
  split at h
  ·cases h
  split at h
  ·rename_i e
   rw [e0 e];omega
  ·simp only [Bool.and_eq_true] at h;exact e1 h.1
 ·cases h
theorem goodPat_parts {cls:ByteArray} {ts:List S86} (h:goodPatB cls ts=true):goodClsB cls=true∧ts.length≤6∧∀t,t∈ts→goodTermB t=true:=by
 unfold goodPatB at h
 simp only [Bool.and_eq_true,decide_eq_true_eq,List.all_eq_true] at h;exact ⟨h.1,h.2.1,h.2.2⟩
theorem scope_both (nm:ByteArray) (sa:Int) (ps:List S42) (es:List S161) (as_:List S98) (hsz:∀e,e∈es→e.f2.size≤maxLen) (hS:ShapeOK nm ps es as_):
  ∃v,Ev (fun k=>spec_l2Scope.f k nm sa ps es as_) v∧impl_Rule_scopeFault.f nm sa ps es as_=some v∧(v=-1∨0≤v):=by
 obtain ⟨_,hp6,ha8,h60,hgp,fs,ds,hT,hC⟩:=hS
 have htl:∀p,p∈ps→p.f2.length≤6∧∀t,t∈p.f2→t.f2.size≤maxLen:=by
  intro p hp;obtain ⟨_,h2,h3⟩:=goodPat_parts (hgp p hp);exact ⟨h2,fun t ht=>Nat.le_trans (goodTerm_size t (h3 t ht)) (by unfold maxLen;omega)⟩
 obtain ⟨y,kn',h1,h2,h3,h4,h5⟩:=scopeP nm sa ps es as_ hp6 htl 0 (Nat.zero_le _) [] [] (fun _=>rfl) (by simp);rw [List.drop_zero] at h1
 have start:∀r,Ev (fun k=>spec_l2Scope.l0 k ([]:List ByteArray) ps (ps.length:Int) ((0:Nat):Int) nm sa ps es as_) r→Ev (fun k=>spec_l2Scope.f k nm sa ps es as_) r:=by
  intro r hr;exact Ev.congr (fun k=>by unfold spec_l2Scope.f;exact rfl) hr
 unfold impl_Rule_scopeFault.f
 rw [if_pos ⟨hp6,h60,ha8⟩,h1];simp only [Option.bind_some];rcases h4 with h4|h4
 ·rw [if_pos h4];obtain ⟨v,e1,e2,e3⟩:=scopeA nm sa ps es as_ hT h60 hp6 ha8 hsz kn' y.2 h2 h3 0 (Nat.zero_le _) 0 _ 0 rfl (Nat.zero_le _) (by rw [List.drop_zero];exact hC);rw [List.drop_zero] at e1;exact ⟨v,start v (h5 v (fun e=>by omega) (fun _=>e3)),e1,e2⟩
 ·rw [if_neg (by omega)];exact ⟨y.1,start _ (h5 _ (fun _=>rfl) (fun e=>by omega)),rfl,Or.inr h4⟩
end Go.Proofs.YtahambloheoebaaGreatDoor.Pure
namespace Go.Proofs.YtahambloheoebaaGreatDoor.Pure
open Go.RowKit Go.Proofs.YtahambloheoebaaGreatDoor.P Go.Proofs.YtahambloheoebaaGreatDoorW.PrintWords Go.Proofs.YtahambloheoebaaGreatDoorW.PrintLast Go.Proofs.YtahambloheoebaaGreatDoorX
set_option linter.unusedVariables false
set_option linter.unusedSimpArgs false
def posN (ps:List S42):Nat:=(ps.filter fun p=>!p.f0).length
theorem posN_cons (p:S42) (ps:List S42):posN (p::ps)=if p.f0=true then posN ps else posN ps+1:=by
 unfold posN
 rw [List.filter_cons];cases p.f0<;>simp
theorem specPos (ps:List S42) (hl:ps.length≤6):∀i,i≤ps.length→∀c:Int,0≤c→c≤100→Ev (fun k=>spec_l2Positive.l0 k c ps (ps.length:Int) (i:Int)) (c+(posN (ps.drop i):Int)):=by
 have key:∀i,i≤ps.length→∀c:Int,0≤c→c≤100+(i:Int)→Ev (fun k=>spec_l2Positive.l0 k c ps (ps.length:Int) (i:Int)) (c+(posN (ps.drop i):Int)):=by
  refine up_ind ?_ ?_
  ·intro c _ _;rw [List.drop_length];refine Ev.step (fun k=>by simp only [spec_l2Positive.l0];exact rfl) ?_;exact Ev.ifF (by omega) (Ev.as (Ev.now _) (by simp [posN]))
  ·intro i hi ih c h0 h1;have hrd:rd_T42 ps (i:Int)=ps.getD i z42:=by simp [rd_T42]
   rw [drop_getD z42 hi,posN_cons];refine Ev.step (fun k=>by simp only [spec_l2Positive.l0,wrap_succ hi (show ps.length≤9223372036854775807 by omega),hrd];exact rfl) ?_;refine Ev.ifT (by omega) (Ev.ifT (by omega) (Ev.ifT (by omega) ?_));refine Ev.ite (fun q=>?_) (fun q=>?_)
   ·rw [if_pos q];exact ih c h0 (by omega)
   ·rw [if_neg q];rw [show wrap64 (c+1)=c+1 by unfold wrap64;omega];exact Ev.as (ih (c+1) (by omega) (by omega)) (by omega)
 intro i hi c h0 h1;exact key i hi c h0 (by omega)
theorem implPos (ps:List S42) (hl:ps.length≤6):∀i,i≤ps.length→∀c:Int,0≤c→c≤100+(i:Int)→Ev (fun k=>impl_Rule_positives.l0 k c ps (ps.length:Int) (i:Int)) (c+(posN (ps.drop i):Int)):=by
 refine up_ind ?_ ?_
 ·intro c _ _;rw [List.drop_length];refine Ev.step (fun k=>by simp only [impl_Rule_positives.l0];exact rfl) ?_;exact Ev.ifF (by omega) (Ev.as (Ev.now _) (by simp [posN]))
 ·intro i hi ih c h0 h1;have hrd:rd_T42 ps (i:Int)=ps.getD i z42:=by simp [rd_T42]
  rw [drop_getD z42 hi,posN_cons];refine Ev.step (fun k=>by simp only [impl_Rule_positives.l0,wrap_succ hi (show ps.length≤9223372036854775807 by omega),hrd];exact rfl) ?_;refine Ev.ifT (by omega) (Ev.ifT (by omega) (Ev.ifT (by omega) ?_));refine Ev.ite (fun q=>?_) (fun q=>?_)
  ·rw [if_pos q];exact ih c h0 (by omega)
  ·rw [if_neg q];rw [show wrap64 (c+1)=c+1 by unfold wrap64;omega];exact Ev.as (ih (c+1) (by omega) (by omega)) (by omega)
theorem specPos_some (nm:ByteArray) (sa:Int) (ps:List S42) (es:List S161) (as_:List S98) (hl:ps.length≤6):Ev (fun k=>spec_l2Positive.f k nm sa ps es as_) (posN ps:Int):=by
 refine Ev.congr (fun k=>by unfold spec_l2Positive.f;exact rfl) ?_;exact Ev.as (specPos ps hl 0 (Nat.zero_le _) 0 (by omega) (by omega)) (by rw [List.drop_zero];omega)
theorem implPos_some (nm:ByteArray) (sa:Int) (ps:List S42) (es:List S161) (as_:List S98) (hl:ps.length≤6):Ev (fun k=>impl_Rule_positives.f k nm sa ps es as_) (posN ps:Int):=by
 refine Ev.congr (fun k=>by unfold impl_Rule_positives.f;exact rfl) ?_;exact Ev.as (implPos ps hl 0 (Nat.zero_le _) 0 (by omega) (by omega)) (by rw [List.drop_zero];omega)
theorem ck_acts_sign (n:Int) (lp:Nat):∀(as_:List S98) (j:Nat),ck_acts n lp as_ j=-1∨0≤ck_acts n lp as_ j
 | [],j=>Or.inl rfl
 | a::as_,j=>by
  unfold ck_acts
  split
  ·exact Or.inr (by omega)
  ·exact ck_acts_sign n lp as_ (j+1)
def RuleSz (q:S39):Prop:=q.f0.size≤maxLen∧(∀e,e∈q.f3→okByte e.f1∧e.f2.size≤maxLen)
def RuleOK (q:S39):Prop:=ShapeOK q.f0 q.f2 q.f3 q.f4∧1≤posN q.f2∧posN q.f2≤3∧impl_Rule_scopeFault.f q.f0 q.f1 q.f2 q.f3 q.f4=some (-1)∧ck_acts (posN q.f2:Int) q.f2.length q.f4 0=-1
section
variable (R:List S39)
theorem ckSpec (i:Nat) (hi:i<R.length) (q:S39) (n:Int) (hp:q.f2.length≤6) (ha:q.f4.length≤8):∀m,m≤q.f4.length→∀r,(0≤ck_acts n q.f2.length (q.f4.drop m) m→r=(5,(i:Int),ck_acts n q.f2.length (q.f4.drop m) m))→
  (ck_acts n q.f2.length (q.f4.drop m) m=-1→Ev (fun k=>spec_CheckRules.l0 k R R (R.length:Int) (wrap64 ((i:Int)+1))) r)→
  Ev (fun k=>spec_CheckRules.l2 k R (i:Int) n R (R.length:Int) (i:Int) q.f4 (q.f4.length:Int) (m:Int) q.f0 q.f1 q.f2 q.f3 q.f4) r:=by
 refine up_ind ?_ ?_
 ·intro r _ h2;refine Ev.step (fun k=>by simp only [spec_CheckRules.l2];exact rfl) ?_;refine Ev.ifF (by omega) (h2 ?_);rw [List.drop_length];rfl
 ·intro m hm ih r h1 h2;have hrd:rd_T98 q.f4 (m:Int)=q.f4.getD m z98:=by simp [rd_T98]
  rw [drop_getD z98 hm] at h1 h2;refine Ev.step (fun k=>by simp only [spec_CheckRules.l2,wrap_succ hm (show q.f4.length≤9223372036854775807 by omega),hrd];exact rfl) ?_;generalize q.f4.getD m z98=a at *;unfold ck_acts at h1 h2
  refine Ev.ifT (by omega) (Ev.ifT (by omega) (Ev.ifT (by omega) ?_))
  have bad:(a.f0=2∨a.f0=3)∧(a.f1<1∨n<a.f1)→Ev (fun _=>some ((5,(i:Int),wrap64 (wrap64 ((q.f2.length:Int)+(m:Int))+1)):Int×Int×Int)) r:=by
   intro c;rw [if_pos c] at h1;refine Ev.as (Ev.now _) ?_;rw [h1 (by omega),wrap2 q.f2.length m hp (by omega)]
  have good:¬((a.f0=2∨a.f0=3)∧(a.f1<1∨n<a.f1))→Ev (fun k=>spec_CheckRules.l2 k R (i:Int) n R (R.length:Int) (i:Int) q.f4 (q.f4.length:Int) ((m+1:Nat):Int) q.f0 q.f1 q.f2 q.f3 q.f4) r:=by
   intro c;rw [if_neg c] at h1 h2;exact ih r h1 h2
  refine Ev.ite (fun c2=>?_) (fun c2=>?_)
  ·refine Ev.ite (fun d1=>bad ⟨Or.inl c2,Or.inl d1⟩) (fun d1=>?_);exact Ev.ite (fun d2=>bad ⟨Or.inl c2,Or.inr d2⟩) (fun d2=>good (fun z=>by rcases z.2 with z|z;exact d1 z;exact d2 z))
  ·refine Ev.ite (fun c3=>?_) (fun c3=>?_)
   ·refine Ev.ite (fun d1=>bad ⟨Or.inr c3,Or.inl d1⟩) (fun d1=>?_);exact Ev.ite (fun d2=>bad ⟨Or.inr c3,Or.inr d2⟩) (fun d2=>good (fun z=>by rcases z.2 with z|z;exact d1 z;exact d2 z))
   ·exact good (fun z=>by rcases z.1 with z|z;exact c2 z;exact c3 z)
theorem nameSpec (i:Nat) (hi:i<R.length) (h16:R.length≤16) (q:S39) (T:List S39) (hT:T.length≤16):∀j,j≤T.length→∀r,(memS q.f0 ((T.drop j).map fun p=>p.f0)=true→r=(2,(i:Int),0))→
  (memS q.f0 ((T.drop j).map fun p=>p.f0)=false→Ev (fun k=>(spec_l2Positive.f k q.f0 q.f1 q.f2 q.f3 q.f4).bind fun t203=>(if t203<1 then (spec_CheckRules.j2 k R (i:Int) t203 R (R.length:Int) (i:Int) true q.f0 q.f1 q.f2 q.f3 q.f4) else (spec_CheckRules.j2 k R (i:Int) t203 R (R.length:Int) (i:Int) (decide (t203>3)) q.f0 q.f1 q.f2 q.f3 q.f4))) r)→
  Ev (fun k=>spec_CheckRules.l1 k R (i:Int) R (R.length:Int) (i:Int) T (T.length:Int) (j:Int) q.f0 q.f1 q.f2 q.f3 q.f4) r:=by
 refine up_ind ?_ ?_
 ·intro r _ h2;refine Ev.step (fun k=>by simp only [spec_CheckRules.l1];exact rfl) ?_;refine Ev.ifF (by omega) (h2 ?_);rw [List.drop_length];rfl
 ·intro j hj ih r h1 h2;have hrd:rd_T39 T (j:Int)=T.getD j z39:=by simp [rd_T39]
  rw [drop_getD z39 hj] at h1 h2;refine Ev.step (fun k=>by simp only [spec_CheckRules.l1,wrap_succ hj (show T.length≤9223372036854775807 by omega),hrd];exact rfl) ?_;generalize T.getD j z39=p at *;simp only [List.map_cons,memS] at h1 h2;refine Ev.ifT (by omega) (Ev.ifT (by omega) (Ev.ifT (by omega) ?_));refine Ev.ite (fun c=>?_) (fun c=>?_)
  ·rw [beq_iff_eq.2 c,Bool.true_or] at h1;exact Ev.as (Ev.now _) (h1 rfl).symm
  ·rw [beq_eq_false_iff_ne.2 c,Bool.false_or] at h1 h2;exact ih r h1 h2
theorem memS_rev (s:ByteArray) (L:List ByteArray):memS s L.reverse=memS s L:=by
 induction L with
 | nil=>rfl
 | cons u r ih=>
  rw [List.reverse_cons,memS_snoc,ih];simp only [memS];exact Bool.or_comm _ _
def namesB (i:Nat):List ByteArray:=((R.take i).map fun p=>p.f0).reverse
theorem checkLoop (h16:R.length≤16) (hsz:∀q,q∈R→RuleSz q):∀i,i≤R.length→∃y:Int×Int×Int,Ev (fun k=>spec_CheckRules.l0 k R R (R.length:Int) (i:Int)) y∧Ev (fun k=>ck_rules k (R.drop i) i (namesB R i)) y∧
  (y=(0,0,0)∧(∀j,i≤j→j<R.length→RuleOK (R.getD j z39)∧memS (R.getD j z39).f0 (namesB R j)=false)∨1≤y.1):=by
 refine up_ind ?_ ?_
 ·refine ⟨(0,0,0),?_,?_,Or.inl ⟨rfl,fun j h1 h2=>by omega⟩⟩
  ·refine Ev.step (fun k=>by simp only [spec_CheckRules.l0];exact rfl) ?_;exact Ev.ifF (by omega) (Ev.now _)
  ·rw [List.drop_length];exact Ev.now _
 ·intro i hi ih;obtain ⟨y,ih1,ih2,ih3⟩:=ih;have hrd:rd_T39 R (i:Int)=R.getD i z39:=by simp [rd_T39]
  have hq:=hsz _ (getD_in z39 hi)
  have hnext:namesB R (i+1)=(R.getD i z39).f0::namesB R i:=by
   unfold namesB
   rw [List.take_succ_eq_append_getElem hi,List.map_append,List.reverse_append,getD_lt z39 hi];rfl
  rw [hnext] at ih2
  have hcase:(RuleOK (R.getD i z39)∧memS (R.getD i z39).f0 (namesB R i)=false)→(y=(0,0,0)∧(∀j,i≤j→j<R.length→RuleOK (R.getD j z39)∧memS (R.getD j z39).f0 (namesB R j)=false)∨1≤y.1):=by
   intro hc;refine ih3.imp (fun z=>⟨z.1,fun j h1 h2=>?_⟩) id;by_cases e:j=i
   ·subst e;exact hc
   ·exact z.2 j (by omega) h2
  rw [drop_getD z39 hi];clear ih3 hnext
  have startS:∀r,Ev (fun k=>(spec_l2Shape.f k (R.getD i z39).f0 (R.getD i z39).f1 (R.getD i z39).f2 (R.getD i z39).f3 (R.getD i z39).f4).bind fun t196=>(if t196≥0 then (some (1,(i:Int),t196)) else (spec_CheckRules.l1 k R (i:Int) R (R.length:Int) (i:Int) (R.take i) ((R.take i).length:Int) ((0:Nat):Int) (R.getD i z39).f0 (R.getD i z39).f1 (R.getD i z39).f2 (R.getD i z39).f3 (R.getD i z39).f4))) r→Ev (fun k=>spec_CheckRules.l0 k R R (R.length:Int) (i:Int)) r:=by
   intro r hr;obtain ⟨Kr,hr⟩:=hr;refine ⟨Kr+1,fun k hk=>?_⟩;obtain ⟨m,rfl⟩:∃m,k=m+1:=⟨k-1,by omega⟩;have:=hr m (by omega)
   dsimp only at this ⊢
   simp only [spec_CheckRules.l0,hrd];rw [if_pos (by omega),if_pos (by omega),if_pos (by omega),if_pos (by omega)];simp only [Option.bind_some,Int.toNat_natCast];exact this
  generalize hqq:R.getD i z39=q at *;obtain ⟨hq0,hqe⟩:=hq;obtain ⟨v,hs1,hs2,hs3⟩:=shape_both q.f0 q.f1 q.f2 q.f3 q.f4 (fun e he=>(hqe e he).1)
  have startI:∀r,Ev (fun k=>(if 0≤v then some (1,(i:Int),v) else
   if memS q.f0 (namesB R i)=true then some (2,(i:Int),0) else
   (impl_Rule_positives.f k q.f0 q.f1 q.f2 q.f3 q.f4).bind fun n=>if n<1∨3<n then some (3,(i:Int),0) else
   (impl_Rule_scopeFault.f q.f0 q.f1 q.f2 q.f3 q.f4).bind fun c=>if 0≤c then some (4,(i:Int),c) else
   if q.f2.length≤6∧q.f4.length≤8 then (if ck_acts n q.f2.length q.f4 0=-1 then ck_rules k (R.drop (i+1)) (i+1) (q.f0::namesB R i) else some (5,(i:Int),ck_acts n q.f2.length q.f4 0)) else none:Option (Int×Int×Int))) r→Ev (fun k=>ck_rules k (q::R.drop (i+1)) i (namesB R i)) r:=by
   intro r hr;refine Ev.congr (fun k=>by unfold ck_rules;rw [if_pos hq0,hs2]) ?_;exact hr
  rcases hs3 with ⟨hv,hS⟩|hv
  rotate_left
  ·exact ⟨(1,(i:Int),v),startS _ (Ev.bind hs1 (Ev.ifT hv (Ev.now _))),startI _ (Ev.ifT hv (Ev.now _)),Or.inr (by dsimp only;omega)⟩
  replace startS:=fun r hr=>startS r (Ev.bind hs1 (Ev.ifF (by omega) hr))
  replace startI:=fun r hr=>startI r (Ev.ifF (by omega) hr)
  have hS2:=hS;obtain ⟨_,hp6,ha8,h60,_,_⟩:=hS2
  have hnames:memS q.f0 (((R.take i).drop 0).map fun p=>p.f0)=memS q.f0 (namesB R i):=by
   unfold namesB
   rw [memS_rev,List.drop_zero]
  have hname:=nameSpec R i hi h16 q (R.take i) (by rw [List.length_take];omega) 0 (Nat.zero_le _);rw [hnames] at hname;cases hm:memS q.f0 (namesB R i) with
  | true=>
   rw [hm] at startI hname;exact ⟨(2,(i:Int),0),startS _ (hname _ (fun _=>rfl) (fun e=>by cases e)),startI _ (Ev.ifT (by trivial) (Ev.now _)),Or.inr (by dsimp only;omega)⟩
  | false=>
  rw [hm] at startI hname hcase;replace startI:=fun r hr=>startI r (Ev.ifF (by simp) (Ev.bind (implPos_some q.f0 q.f1 q.f2 q.f3 q.f4 hp6) hr))
  replace startS:=fun r hr=>startS r (hname r (fun e=>by cases e) (fun _=>Ev.bind (specPos_some q.f0 q.f1 q.f2 q.f3 q.f4 hp6) hr))
  have hj2:∀b r,(b=true→r=(3,(i:Int),0))→(b=false→Ev (fun k=>(spec_l2Scope.f k q.f0 q.f1 q.f2 q.f3 q.f4).bind fun t204=>(if t204≥0 then (some (4,(i:Int),t204)) else (spec_CheckRules.l2 k R (i:Int) (posN q.f2:Int) R (R.length:Int) (i:Int) q.f4 (q.f4.length:Int) 0 q.f0 q.f1 q.f2 q.f3 q.f4))) r)→
    Ev (fun k=>spec_CheckRules.j2 k R (i:Int) (posN q.f2:Int) R (R.length:Int) (i:Int) b q.f0 q.f1 q.f2 q.f3 q.f4) r:=by
   intro b r h1 h2;refine Ev.step (fun k=>by simp only [spec_CheckRules.j2];exact rfl) ?_;cases b with
   | true=>exact Ev.ifT (by trivial) (Ev.as (Ev.now _) (h1 rfl).symm)
   | false=>exact Ev.ifF (by simp) (h2 rfl)
  by_cases n1:(posN q.f2:Int)<1
  ·exact ⟨(3,(i:Int),0),startS _ (Ev.ifT n1 (hj2 _ _ (fun _=>rfl) (fun e=>by cases e))),startI _ (Ev.ifT (Or.inl n1) (Ev.now _)),Or.inr (by dsimp only;omega)⟩
  by_cases n3:(posN q.f2:Int)>3
  ·exact ⟨(3,(i:Int),0),startS _ (Ev.ifF n1 (hj2 _ _ (fun _=>rfl) (fun e=>absurd n3 (of_decide_eq_false e)))),startI _ (Ev.ifT (Or.inr n3) (Ev.now _)),Or.inr (by dsimp only;omega)⟩
  replace startS:=fun r hr=>startS r (Ev.ifF n1 (hj2 _ r (fun e=>absurd (of_decide_eq_true e) n3) (fun _=>hr)))
  replace startI:=fun r hr=>startI r (Ev.ifF (by omega) hr)
  obtain ⟨c,hc1,hc2,hc3⟩:=scope_both q.f0 q.f1 q.f2 q.f3 q.f4 (fun e he=>(hqe e he).2) hS;replace startI:=fun r hr=>startI r (Ev.bindE hc2 hr)
  rcases hc3 with hc3|hc3
  rotate_left
  ·exact ⟨(4,(i:Int),c),startS _ (Ev.bind hc1 (Ev.ifT hc3 (Ev.now _))),startI _ (Ev.ifT hc3 (Ev.now _)),Or.inr (by dsimp only;omega)⟩
  replace startS:=fun r hr=>startS r (Ev.bind hc1 (Ev.ifF (by omega) hr))
  replace startI:=fun r hr=>startI r (Ev.ifF (by omega) (Ev.ifT ⟨hp6,ha8⟩ hr))
  have hck:=ckSpec R i hi q (posN q.f2:Int) hp6 ha8 0 (Nat.zero_le _);rw [List.drop_zero] at hck;rcases ck_acts_sign (posN q.f2:Int) q.f2.length q.f4 0 with hk|hk
  ·refine ⟨y,startS _ (hck _ (fun e=>by omega) (fun _=>?_)),startI _ (Ev.ifT hk ih2),hcase ⟨⟨hS,by omega,by omega,by rw [hc2,hc3],hk⟩,rfl⟩⟩;rw [wrap_succ hi (show R.length≤9223372036854775807 by omega)];exact ih1
  ·exact ⟨_,startS _ (hck _ (fun _=>rfl) (fun e=>by omega)),startI _ (Ev.ifF (by omega) (Ev.now _)),Or.inr (by dsimp only;omega)⟩
theorem check_both (hsz:∀q,q∈R→RuleSz q):∃y:Int×Int×Int,Ev (fun k=>spec_CheckRules.f k R) y∧Ev (fun k=>impl_CheckRules.f k R) y∧
  (y=(0,0,0)∧R.length≤16∧(∀j,j<R.length→RuleOK (R.getD j z39)∧memS (R.getD j z39).f0 (namesB R j)=false)∨1≤y.1):=by
 by_cases c:16<R.length
 ·refine ⟨(1,0,0),?_,?_,Or.inr (by dsimp only;omega)⟩
  ·refine Ev.congr (fun k=>by unfold spec_CheckRules.f;exact rfl) ?_;exact Ev.ifT (by omega) (Ev.now _)
  ·refine Ev.congr (fun k=>by unfold impl_CheckRules.f;exact rfl) ?_;exact Ev.ifT c (Ev.now _)
 ·obtain ⟨y,h1,h2,h3⟩:=checkLoop R (by omega) hsz 0 (Nat.zero_le _);refine ⟨y,?_,?_,h3.imp (fun z=>⟨z.1,by omega,fun j hj=>z.2 j (Nat.zero_le _) hj⟩) id⟩
  ·refine Ev.congr (fun k=>by unfold spec_CheckRules.f;exact rfl) ?_;exact Ev.ifF (by omega) h1
  ·refine Ev.congr (fun k=>by unfold impl_CheckRules.f;exact rfl) ?_;refine Ev.ifF c ?_;rw [List.drop_zero] at h2;exact h2
end
end Go.Proofs.YtahambloheoebaaGreatDoor.Pure
namespace Go.Proofs.YtahambloheoebaaGreatDoor.Pure
open Go.RowKit Go.Proofs.YtahambloheoebaaGreatDoor.P Go.Proofs.YtahambloheoebaaGreatDoorW.PrintWords Go.Proofs.YtahambloheoebaaGreatDoorW.PrintLast Go.Proofs.YtahambloheoebaaGreatDoorX
set_option linter.unusedVariables false
set_option linter.unusedSimpArgs false
theorem checked_both (R:List S39) (hsz:∀q,q∈R→RuleSz q):∃b:Bool,Ev (fun k=>spec_l2Checked.f k R) b∧Ev (fun k=>impl_checked.f k R) b∧
  (b=true→R.length≤16∧∀j,j<R.length→RuleOK (R.getD j z39)∧memS (R.getD j z39).f0 (namesB R j)=false):=by
 obtain ⟨y,h1,h2,h3⟩:=check_both R hsz;rcases h3 with ⟨rfl,h4⟩|h4
 ·refine ⟨true,?_,?_,fun _=>h4⟩
  ·refine Ev.congr (fun k=>by unfold spec_l2Checked.f;exact rfl) (Ev.bind h1 ?_);exact Ev.as (Ev.now _) rfl
  ·refine Ev.congr (fun k=>by unfold impl_checked.f;exact rfl) (Ev.bind h2 ?_);exact Ev.as (Ev.now _) rfl
 ·have hf:(y.1==0)=false:=by simp only [beq_eq_false_iff_ne];omega
  refine ⟨false,?_,?_,fun h=>absurd h (by simp)⟩
  ·refine Ev.congr (fun k=>by unfold spec_l2Checked.f;exact rfl) (Ev.bind h1 ?_);refine Ev.as (Ev.now _) ?_;rw [hf];rfl
  ·refine Ev.congr (fun k=>by unfold impl_checked.f;exact rfl) (Ev.bind h2 ?_);exact Ev.as (Ev.now _) hf
end Go.Proofs.YtahambloheoebaaGreatDoor.Pure
namespace Go.Proofs.YtahambloheoebaaGreatDoor.Pure
open Go.RowKit Go.Proofs.YtahambloheoebaaGreatDoor.P Go.Proofs.YtahambloheoebaaGreatDoorW.PrintWords Go.Proofs.YtahambloheoebaaGreatDoorW.PrintLast Go.Proofs.YtahambloheoebaaGreatDoorX
set_option linter.unusedVariables false
set_option linter.unusedSimpArgs false
theorem szA (a b:ByteArray):(a++b).size=a.size+b.size:=ByteArray.size_append
theorem digit1 (u:Nat):strOfNums [((48+(u % 10:Nat):Int)) % 256]=⟨#[UInt8.ofNat (48+u % 10)]⟩:=by
 unfold strOfNums
 rw [show ((48+(u % 10:Nat):Int)) % 256=((48+u % 10:Nat):Int) by omega];rfl
theorem one_size (c:Int):(strOfNums [c]).size=1:=rfl
def decS (u:Nat) (s:ByteArray):ByteArray:=(⟨(Lib.decDigits u).toArray⟩:ByteArray)++s
theorem ba_ext {a b:ByteArray} (h:a.data.toList=b.data.toList):a=b:=by
 cases a with|mk a=>
 cases b with|mk b=>
 have:a=b:=Array.toList_inj.1 h
 rw [this]
theorem app_list (a b:ByteArray):(a++b).data.toList=a.data.toList++b.data.toList:=by rw [ByteArray.data_append,Array.toList_append]
theorem decS_small (u:Nat) (s:ByteArray) (h:u<10):decS u s=(⟨#[UInt8.ofNat (48+u % 10)]⟩:ByteArray)++s:=by
 unfold decS
 rw [Lib.decDigits,dif_pos h,Nat.mod_eq_of_lt h]
theorem decS_big (u:Nat) (s:ByteArray) (h:¬u<10):decS u s=decS (u / 10) ((⟨#[UInt8.ofNat (48+u % 10)]⟩:ByteArray)++s):=by
 unfold decS
 rw [Lib.decDigits,dif_neg h];apply ba_ext
 simp only [app_list,List.append_assoc]
theorem tm_neg (u:Nat):Int.tmod (-(u:Int)) 10=-((u % 10:Nat):Int):=by
 rw [Int.neg_tmod,Int.tmod_eq_emod_of_nonneg (by omega)];omega
theorem td_neg (u:Nat):Int.tdiv (-(u:Int)) 10=-((u / 10:Nat):Int):=by
 rw [Int.neg_tdiv,Int.tdiv_eq_ediv_of_nonneg (by omega)];omega
theorem dec_neg (n:Nat):∀(u:Nat) (s:ByteArray),u<10 ^ n→u≤9223372036854775808→s.size+n≤1000→
  Ev (fun k=>spec_l1Dec.l0 k (-(u:Int)) s) ((⟨#[45]⟩:ByteArray)++(if u=0 then s else decS u s)):=by
 induction n with
 | zero=>
  intro u s hu _ hs;have hu:u=0:=by simpa using hu
  subst hu;refine Ev.step (fun k=>by simp only [spec_l1Dec.l0];exact rfl) ?_;exact Ev.ifF (by omega) (Ev.ifT (by omega) (Ev.now _))
 | succ n ih=>
  intro u s hu hm hs;refine Ev.step (fun k=>by simp only [spec_l1Dec.l0];exact rfl) ?_;by_cases h0:u=0
  ·subst h0;exact Ev.ifF (by omega) (Ev.ifT (by omega) (Ev.now _))
  ·refine Ev.ifT (by omega) (Ev.bindS (Ev.ifT (by rw [one_size];omega) ?_));rw [tm_neg,td_neg];rw [show wrap64 (48 - -((u % 10:Nat):Int))=48+((u % 10:Nat):Int) by unfold wrap64;omega];rw [show wrap64 (-((u / 10:Nat):Int))=-((u / 10:Nat):Int) by unfold wrap64;omega];rw [digit1];refine Ev.as (ih (u / 10) _ (by rw [Nat.pow_succ] at hu;omega) (by omega) (by rw [szA];show 1+s.size+n≤1000;omega)) ?_;rw [if_neg h0];by_cases h1:u<10
   ·rw [if_pos (by omega),decS_small u s h1]
   ·rw [if_neg (by omega),decS_big u s h1]
theorem dec_pos (n:Nat):∀(u:Nat) (s:ByteArray) (b:Bool),u<10 ^ n→u≤9223372036854775807→s.size+n+1≤1000→
  Ev (fun k=>spec_l1Dec.l1 k (u:Int) s b) (if u=0∧b=false then s else decS u s):=by
 have stp:∀(u:Nat) (s:ByteArray) (b:Bool) (r:ByteArray),u≤9223372036854775807→s.size≤1000→(b=true∨0<u)→Ev (fun k=>spec_l1Dec.l1 k ((u / 10:Nat):Int) ((⟨#[UInt8.ofNat (48+u % 10)]⟩:ByteArray)++s) false) r→Ev (fun k=>spec_l1Dec.l1 k (u:Int) s b) r:=by
  intro u s b r hm hs hb hr;have e1:Int.tmod (u:Int) 10=((u % 10:Nat):Int):=by rw [Int.tmod_eq_emod_of_nonneg (by omega)];omega
  have e2:Int.tdiv (u:Int) 10=((u / 10:Nat):Int):=by rw [Int.tdiv_eq_ediv_of_nonneg (by omega)];omega
  have e3:wrap64 (48+((u % 10:Nat):Int))=48+((u % 10:Nat):Int):=by unfold wrap64;omega
  have e4:wrap64 ((u / 10:Nat):Int)=((u / 10:Nat):Int):=by unfold wrap64;omega
  refine Ev.step (fun k=>by simp only [spec_l1Dec.l1];exact rfl) ?_;by_cases hbt:b=true
  ·refine Ev.ifT hbt (Ev.bindS (Ev.ifT (by rw [one_size];omega) ?_));rw [e1,e2,e3,e4,digit1];exact hr
  ·refine Ev.ifF hbt (Ev.ifT (by rcases hb with hb|hb;exact absurd hb hbt;omega) (Ev.bindS (Ev.ifT (by rw [one_size];omega) ?_)));rw [e1,e2,e3,e4,digit1];exact hr
 induction n with
 | zero=>
  intro u s b hu _ hs;have hu:u=0:=by simpa using hu
  subst hu;cases b with
  | false=>
   rw [if_pos ⟨rfl,rfl⟩];refine Ev.step (fun k=>by simp only [spec_l1Dec.l1];exact rfl) ?_;exact Ev.ifF (by simp) (Ev.ifF (by omega) (Ev.now _))
  | true=>
   rw [if_neg (by simp)];refine stp 0 s true _ (by omega) (by omega) (.inl rfl) ?_;refine Ev.step (fun k=>by simp only [spec_l1Dec.l1];exact rfl) ?_;exact Ev.ifF (by simp) (Ev.ifF (by omega) (Ev.as (Ev.now _) (decS_small 0 s (by omega)).symm))
 | succ n ih=>
  intro u s b hu hm hs;by_cases h0:u=0∧b=false
  ·obtain ⟨rfl,rfl⟩:=h0;rw [if_pos ⟨rfl,rfl⟩];refine Ev.step (fun k=>by simp only [spec_l1Dec.l1];exact rfl) ?_;exact Ev.ifF (by simp) (Ev.ifF (by omega) (Ev.now _))
  ·rw [if_neg h0];refine stp u s b _ hm (by omega) (by cases b with|true=>exact .inl rfl|false=>exact .inr (Nat.pos_of_ne_zero (fun e=>h0 ⟨e,rfl⟩))) ?_;refine Ev.as (ih (u / 10) _ false (by rw [Nat.pow_succ] at hu;omega) (by omega) (by rw [szA];show 1+s.size+n+1≤1000;omega)) ?_;by_cases h1:u<10
   ·rw [if_pos ⟨by omega,rfl⟩,decS_small u s h1]
   ·rw [if_neg (fun e=>by have:=e.1;omega),decS_big u s h1]
theorem decS_nil (u:Nat):decS u ⟨#[]⟩=⟨(Lib.decDigits u).toArray⟩:=ByteArray.append_empty
theorem l1Dec_some (n:Int) (h:I64 n):Ev (fun k=>spec_l1Dec.f k n) (itoaB n):=by
 obtain ⟨h0,h1⟩:=h;refine Ev.congr (fun k=>by unfold spec_l1Dec.f;exact rfl) ?_;by_cases c:n<0
 ·obtain ⟨u,hu⟩:=Int.eq_ofNat_of_zero_le (show 0≤-n by omega);have hn:n=-(u:Int):=by omega
  subst hn;refine Ev.ifT c (Ev.as (dec_neg 20 u ⟨#[]⟩ (by have:u<10 ^ 20:=Nat.lt_of_le_of_lt (show u≤9223372036854775808 by omega) (by decide);exact this) (by omega) (by decide)) ?_);rw [if_neg (by omega),decS_nil];unfold itoaB Lib.itoa
  rw [if_pos c];apply ba_ext
  rw [app_list];have:(-(u:Int)).natAbs=u:=by omega
  rw [this];rfl
 ·obtain ⟨u,hu⟩:=Int.eq_ofNat_of_zero_le (show 0≤n by omega);subst hu;refine Ev.ifF c (Ev.as (dec_pos 20 u ⟨#[]⟩ true (by have:u<10 ^ 20:=Nat.lt_of_le_of_lt (show u≤9223372036854775807 by omega) (by decide);exact this) (by omega) (by decide)) ?_);rw [if_neg (by simp),decS_nil];unfold itoaB Lib.itoa
  rw [if_neg c];rfl
end Go.Proofs.YtahambloheoebaaGreatDoor.Pure
namespace Go.Proofs.YtahambloheoebaaGreatDoor.Pure
open Go.RowKit Go.Proofs.YtahambloheoebaaGreatDoor.P Go.Proofs.YtahambloheoebaaGreatDoorW.PrintWords Go.Proofs.YtahambloheoebaaGreatDoorW.PrintLast Go.Proofs.YtahambloheoebaaGreatDoorX
set_option linter.unusedVariables false
set_option linter.unusedSimpArgs false
theorem goodSym_sz {s:ByteArray} (h:goodSymB s=true):s.size≤20:=by
 unfold goodSymB at h
 split at h
 ·cases h
 ·split at h
  ·cases h
  ·omega
theorem goodVal_parts {v:S80} (h:goodValueB v=true):v.f2.size≤20:=by
 rw [goodValueB_def] at h;split at h
 ·rw [ByteArray.toList_eq,List.isEmpty_iff] at h;have:=congrArg List.length h
  rw [Array.length_toList] at this;have e:v.f2.size=v.f2.data.size:=rfl
  simp only [List.length_nil] at this;omega
 ·split at h
  ·split at h
   ·exact goodSym_sz h
   ·cases h
  ·cases h
theorem valT_le {v:S80} (h:v.f2.size≤20) (hi:I64 v.f1):(valT v).size≤21:=by
 unfold valT
 split
 ·omega
 ·exact itoaB_size _ hi
theorem l2Val_some (v:S80) (hi:I64 v.f1):Ev (fun k=>spec_l2Val.f k v.f0 v.f1 v.f2) (valT v):=by
 refine Ev.congr (fun k=>by unfold spec_l2Val.f;exact rfl) ?_;unfold valT
 by_cases c:v.f0=1
 ·rw [if_pos c];exact Ev.ifT c (Ev.now _)
 ·rw [if_neg c];exact Ev.ifF c (Ev.bind (l1Dec_some _ hi) (Ev.now _))
def TOk (t:S86):Prop:=I64 t.f3.f1∧(t.f0=3→1≤t.f1∧t.f1≤6)∧t.f2.size≤20∧t.f3.f2.size≤20
theorem zeroVal_parts {v:S80} (h:zeroValB v=true):v.f2.size=0:=by
 unfold zeroValB at h
 simp only [Bool.and_eq_true] at h;have h2:=h.2.2;rw [ByteArray.toList_eq,List.isEmpty_iff] at h2;have:=congrArg List.length h2
 rw [Array.length_toList] at this;exact this
theorem tok_of {t:S86} (h:goodTermB t=true) (hi:I64 t.f3.f1):TOk t:=by
 have h2:=goodTerm_size t h;refine ⟨hi,?_,h2,?_⟩
 ·intro e;unfold goodTermB at h
  rw [if_neg (by omega),if_neg (by omega),if_neg (by omega),if_pos e] at h;split at h
  ·cases h
  ·split at h
   ·cases h
   ·omega
 ·unfold goodTermB at h
  split at h
  ·simp only [Bool.and_eq_true] at h;have:=zeroVal_parts h.2.2;omega
  ·split at h
   ·simp only [Bool.and_eq_true] at h;exact goodVal_parts h.2
   ·split at h
    ·simp only [Bool.and_eq_true] at h;have:=zeroVal_parts h.1.2;omega
    ·split at h
     ·split at h
      ·cases h
      ·split at h
       ·cases h
       ·split at h
        ·exact goodVal_parts h
        ·simp only [Bool.and_eq_true] at h;have:=zeroVal_parts h.2;omega
     ·cases h
theorem trmW_eq (t:S86):trmW (valT t.f3) t.f0 t.f1 t.f2=termT t:=rfl
theorem termT_le {t:S86} (h:TOk t):(termT t).size≤64:=by
 obtain ⟨h1,h2,h3,h4⟩:=h;have hv:=valT_le h4 h1;unfold termT boundT
 split
 ·omega
 ·split
  ·rw [szA];show 1+_≤_;omega
  ·split
   ·rename_i e
    have ht:=tstT_size t.f1 (h2 e).1 (h2 e).2;rw [szA,szA,szA,szA];show 1+_+1+_+1≤_;split
    ·omega
    ·rw [szA];show 1+_+1+(1+_)+1≤_;omega
   ·show 1≤64;omega
theorem implTerm (t:S86) (h:TOk t):impl_Term_String.f t.f0 t.f1 t.f2 t.f3.f0 t.f3.f1 t.f3.f2=some (termT t):=by
 obtain ⟨h1,h2,h3,h4⟩:=h;unfold impl_Term_String.f
 rw [if_pos ⟨h1,h2,by omega,by omega⟩]
theorem specTerm (t:S86) (h:TOk t):Ev (fun k=>spec_l2Term.f k t.f0 t.f1 t.f2 t.f3.f0 t.f3.f1 t.f3.f2) (termT t):=by
 obtain ⟨h1,h2,h3,h4⟩:=h;have hv:=valT_le h4 h1;refine Ev.congr (fun k=>by unfold spec_l2Term.f;exact rfl) ?_;refine Ev.bind (l2Val_some t.f3 h1) ?_;exact Ev.ifT ⟨h2,by omega,by omega⟩ (Ev.as (Ev.now _) (trmW_eq t))
def cat:List ByteArray→ByteArray
 | []=>⟨#[]⟩
 | t::ts=>t++cat ts
def spB:ByteArray:=⟨#[32]⟩
def opnB:ByteArray:=⟨#[40]⟩
def clsB:ByteArray:=⟨#[41]⟩
theorem cat_cons_sz (t:ByteArray) (ts:List ByteArray):(cat (t::ts)).size=t.size+(cat ts).size:=szA _ _
theorem cat_list:∀ts:List ByteArray,(cat ts).data.toList=(ts.map fun t=>t.data.toList).flatten
 | []=>rfl
 | t::ts=>by rw [cat,app_list,cat_list ts];rfl
theorem cat_app (a b:List ByteArray):cat (a++b)=cat a++cat b:=by
 apply ba_ext
 rw [app_list,cat_list,cat_list,cat_list,List.map_append,List.flatten_append]
theorem joinT_cons (x:ByteArray) (ts:List ByteArray):joinT (x::ts) spB=x++cat (ts.map fun t=>spB++t):=by
 apply ba_ext
 unfold joinT
 rw [app_list,cat_list,List.map_map];show Lib.join _ _=_;rw [List.map_cons,Lib.join_cons];unfold Lib.joinTail
 rw [List.map_map];congr 2
theorem cat_map_le {α : Type} (f : α→ByteArray) (B:Nat):∀l:List α,(∀x,x∈l→(f x).size≤B)→(cat (l.map f)).size≤B * l.length
 | [],_=>Nat.zero_le _
 | x::l,h=>by
  have h1:=h x List.mem_cons_self;have h2:=cat_map_le f B l (fun y hy=>h y (List.mem_cons_of_mem _ hy));rw [List.map_cons,cat_cons_sz,List.length_cons,Nat.mul_succ];omega
def wordsP (p:S42):List ByteArray:=if p.f0=true then [⟨#[110,111,116]⟩,p.f1] else [p.f1]
def patT (p:S42):ByteArray:=(opnB++joinT (wordsP p++p.f2.map termT) spB)++clsB
def POk (p:S42):Prop:=p.f1.size≤20∧p.f2.length≤6∧∀t,t∈p.f2→TOk t
theorem rdT (l:List S86) (i:Nat) (h:i<l.length):rd_T86 l (i:Int)=l[i]:=by unfold rd_T86;simp [h]
theorem words_ne (p:S42):0<(wordsP p).length∧(wordsP p).length≤2:=by unfold wordsP;split<;>simp
theorem joinW_le {p:S42} (h:POk p):(joinT (wordsP p++p.f2.map termT) spB).size≤1000:=by
 obtain ⟨h1,h2,h3⟩:=h;have hc:=cat_map_le (fun t=>spB++termT t) 65 p.f2 (fun t ht=>by rw [szA];have:=termT_le (h3 t ht);show 1+_≤65;omega);have hm:(p.f2.map termT).map (fun t=>spB++t)=p.f2.map (fun t=>spB++termT t):=by rw [List.map_map];rfl
 unfold wordsP
 split
 ·rw [List.cons_append,List.cons_append,List.nil_append,joinT_cons,szA,List.map_cons,cat_cons_sz,hm,szA];show 3+(1+p.f1.size+_)≤_;omega
 ·rw [List.cons_append,List.nil_append,joinT_cons,szA,hm];omega
theorem implPat_loop {p:S42} (h:POk p):∀i,i≤p.f2.length→Ev (fun k=>impl_Pattern_String.l0 k (wordsP p++(p.f2.take i).map termT) p.f2 (p.f2.length:Int) (i:Int)) (patT p):=by
 have hj:=joinW_le h;obtain ⟨h1,h2,h3⟩:=h;have hw:=words_ne p;refine up_ind ?_ ?_
 ·refine Ev.step (fun k=>by simp only [impl_Pattern_String.l0];exact rfl) ?_;refine Ev.ifF (by omega) ?_;rw [List.take_length]
  refine Ev.bindE (show strings_Join.f (wordsP p++p.f2.map termT) spB=some (joinT (wordsP p++p.f2.map termT) spB) by
   unfold strings_Join.f
   rw [if_pos ⟨by rw [List.length_append];omega,by rw [List.length_append,List.length_map];omega,by omega⟩]) ?_
  exact Ev.ifT (by omega) (Ev.ifT (by rw [szA];show 1+_+1≤_;omega) (Ev.now _))
 ·intro i hi ih;refine Ev.step (fun k=>by simp only [impl_Pattern_String.l0];exact rfl) ?_;refine Ev.ifT (by omega) (Ev.ifT (by omega) (Ev.ifT (by omega) ?_));rw [rdT _ _ hi];refine Ev.bindE (implTerm _ (h3 _ (List.getElem_mem hi))) ?_;refine Ev.ifT (by rw [List.length_append,List.length_map,List.length_take];omega) ?_;rw [wrap_succ hi (by omega)];rw [List.take_succ_eq_append_getElem hi,List.map_append,←List.append_assoc] at ih;exact ih
theorem implPat (p:S42) (h:POk p):Ev (fun k=>impl_Pattern_String.f k p.f0 p.f1 p.f2) (patT p):=by
 refine Ev.congr (fun k=>by unfold impl_Pattern_String.f;exact rfl) ?_;have h0:=implPat_loop h 0 (Nat.zero_le _);rw [List.take_zero,List.map_nil,List.append_nil] at h0;by_cases c:p.f0=true
 ·refine Ev.ifT c (Ev.step (fun k=>by simp only [impl_Pattern_String.j0];exact rfl) ?_);unfold wordsP at h0
  rw [if_pos c] at h0;exact h0
 ·refine Ev.ifF c (Ev.step (fun k=>by simp only [impl_Pattern_String.j0];exact rfl) ?_);unfold wordsP at h0
  rw [if_neg c] at h0;exact h0
theorem patT_le {p:S42} (h:POk p):(patT p).size≤1002:=by
 have:=joinW_le h
 unfold patT
 rw [szA,szA];show 1+_+1≤_;omega
theorem patT_eq (p:S42):patT p=(opnB++((if p.f0=true then (⟨#[110,111,116,32]⟩:ByteArray) else ⟨#[]⟩)++(p.f1++cat (p.f2.map fun t=>spB++termT t))))++clsB:=by
 have hm:(p.f2.map termT).map (fun t=>spB++t)=p.f2.map (fun t=>spB++termT t):=by rw [List.map_map];rfl
 unfold patT wordsP
 by_cases c:p.f0=true
 ·rw [if_pos c,if_pos c,List.cons_append,List.cons_append,List.nil_append,joinT_cons,List.map_cons,hm];congr 1
 ·rw [if_neg c,if_neg c,List.cons_append,List.nil_append,joinT_cons,hm];congr 1
end Go.Proofs.YtahambloheoebaaGreatDoor.Pure
namespace Go.Proofs.YtahambloheoebaaGreatDoor.Pure
open Go.RowKit Go.Proofs.YtahambloheoebaaGreatDoor.P Go.Proofs.YtahambloheoebaaGreatDoorW.PrintWords Go.Proofs.YtahambloheoebaaGreatDoorW.PrintLast Go.Proofs.YtahambloheoebaaGreatDoorX
set_option linter.unusedVariables false
set_option linter.unusedSimpArgs false
theorem op_all:∀n:Fin 256,arithB (n.val:Int)=true→Utf8.encode (wrap32 (n.val:Int))=strOfNums [(n.val:Int)]:=by decide +kernel
theorem op_text {c:Int} (h:okByte c) (ha:arithB c=true):Utf8.encode (wrap32 c)=strOfNums [c]:=by
 obtain ⟨n,rfl⟩:=Int.eq_ofNat_of_zero_le h.1;exact op_all ⟨n,by have:=h.2;omega⟩ ha
theorem exA_mem (es:List S161) (j:Nat) (h:j<es.length):exA es j∈es:=getD_in _ h
def nodeB (o a b:ByteArray):ByteArray:=(((((opnB++o)++spB)++a)++spB)++b)++clsB
theorem nodeB_sz (o a b:ByteArray):(nodeB o a b).size=1+o.size+1+a.size+1+b.size+1:=by
 unfold nodeB
 rw [szA,szA,szA,szA,szA,szA];rfl
theorem p20 {d:Nat} (h:d≤20):2 ^ d≤1048576:=Nat.le_trans (Nat.pow_le_pow_right (by omega) h) (by decide)
theorem ex_both {es:List S161} {fs ds:List Int} (h:TInv es es.length fs ds) (hb:∀e,e∈es→okByte e.f1) (hv:∀e,e∈es→I64 e.f3.f1) (nm:ByteArray) (sa:Int) (ps:List S42) (as_:List S98):
  ∀j,j<es.length→∃t:ByteArray,Ev (fun k=>impl_Rule_expr.f k nm sa ps es as_ (j:Int)) t∧Ev (fun k=>spec_l2Expr.f k es (j:Int)) t∧t.size+5≤27*2 ^ (ds.getD j 0).toNat:=by
 intro j;induction j using Nat.strongRecOn with
 | ind j ih=>
  intro hj;have hm:=exA_mem es j hj;have hg:=h.gd j hj;have hi:=hv _ hm;obtain ⟨_,_,d0,d20,hc⟩:=h.at_ j hj;have hpos:1≤2 ^ (ds.getD j 0).toNat:=Nat.one_le_two_pow
  by_cases k0:(exA es j).f0=0
  ·have hgv:goodValueB (exA es j).f3=true:=by
    rcases hg with g|g|g
    ·exact g.2
    ·omega
    ·omega
   have hsz:=valT_le (goodVal_parts hgv) hi;refine ⟨valT (exA es j).f3,?_,?_,by omega⟩
   ·refine Ev.step (fun k=>by simp only [impl_Rule_expr.f,rdE];exact rfl) ?_;refine Ev.ifT (by omega) (Ev.ifT (by omega) (Ev.ifT k0 ?_));refine Ev.bindE (show impl_Value_String.f _ _ _=some (valT (exA es j).f3) by unfold impl_Value_String.f;rw [if_pos hi]) (Ev.now _)
   ·refine Ev.step (fun k=>by simp only [spec_l2Expr.f,rdE];exact rfl) ?_;exact Ev.ifT (by omega) (Ev.ifT (by omega) (Ev.ifT k0 (Ev.bind (l2Val_some _ hi) (Ev.now _))))
  by_cases k1:(exA es j).f0=1
  ·have hgs:goodSymB (exA es j).f2=true:=by
    rcases hg with g|g|g
    ·omega
    ·exact g.2
    ·omega
   have hsz:=goodSym_sz hgs;refine ⟨(⟨#[63]⟩:ByteArray)++(exA es j).f2,?_,?_,by rw [szA];show 1+_+5≤_;omega⟩
   ·refine Ev.step (fun k=>by simp only [impl_Rule_expr.f,rdE];exact rfl) ?_;exact Ev.ifT (by omega) (Ev.ifT (by omega) (Ev.ifF k0 (Ev.ifT k1 (Ev.ifT (by omega) (Ev.now _)))))
   ·refine Ev.step (fun k=>by simp only [spec_l2Expr.f,rdE];exact rfl) ?_;exact Ev.ifT (by omega) (Ev.ifT (by omega) (Ev.ifF k0 (Ev.ifT k1 (Ev.ifT (by omega) (Ev.now _)))))
  have k2:(exA es j).f0=2∧arithB (exA es j).f1=true:=by
   rcases hg with g|g|g
   ·omega
   ·omega
   ·exact g
  rcases hc with ⟨n2,_⟩|⟨_,a,b,ha,hbj,h4,h5,_,hd⟩
  ·exact absurd k2.1 n2
  obtain ⟨ta,ia,sa_,za⟩:=ih a ha (by omega);obtain ⟨tb,ib,sb_,zb⟩:=ih b hbj (by omega);have ka:=h.at_ a (by omega);have kb:=h.at_ b (by omega);have ho:=op_text (hb _ hm) k2.2
  have hmx:2 ^ (ds.getD a 0).toNat≤2 ^ (mx (ds.getD a 0) (ds.getD b 0)).toNat∧2 ^ (ds.getD b 0).toNat≤2 ^ (mx (ds.getD a 0) (ds.getD b 0)).toNat:=by
   constructor<;>refine Nat.pow_le_pow_right (by omega) ?_<;>unfold mx<;>split<;>omega
  have h20:=p20 (d:=(ds.getD j 0).toNat) (by omega)
  have hsum:2 ^ (ds.getD j 0).toNat=2*2 ^ (mx (ds.getD a 0) (ds.getD b 0)).toNat:=by
   rw [hd];have h0:=mx_ge0 ka.2.2.1 kb.2.2.1;rw [show (1+mx (ds.getD a 0) (ds.getD b 0)).toNat=(mx (ds.getD a 0) (ds.getD b 0)).toNat+1 by omega,Nat.pow_succ];omega
  have o1:(strOfNums [(exA es j).f1]).size=1:=rfl
  have n1:(opnB++strOfNums [(exA es j).f1]).size=2:=by rw [szA];rfl
  have n2:((opnB++strOfNums [(exA es j).f1])++spB).size=3:=by rw [szA,n1];rfl
  have n3:(((opnB++strOfNums [(exA es j).f1])++spB)++ta).size=3+ta.size:=by rw [szA,n2]
  have n4:((((opnB++strOfNums [(exA es j).f1])++spB)++ta)++spB).size=3+ta.size+1:=by rw [szA,n3];rfl
  have n5:(((((opnB++strOfNums [(exA es j).f1])++spB)++ta)++spB)++tb).size=3+ta.size+1+tb.size:=by rw [szA,n4]
  refine ⟨nodeB (strOfNums [(exA es j).f1]) ta tb,?_,?_,?_⟩
  ·refine Ev.step (fun k=>by simp only [impl_Rule_expr.f,rdE];exact rfl) ?_;refine Ev.ifT (by omega) (Ev.ifT (by omega) (Ev.ifF k0 (Ev.ifF k1 ?_)));rw [ho,h4,h5];refine Ev.ifT (by omega) (Ev.ifT (show (opnB++strOfNums [(exA es j).f1]).size+1≤_ by omega) (Ev.bind ia ?_));refine Ev.ifT (show ((opnB++strOfNums [(exA es j).f1])++spB).size+ta.size≤_ by omega) ?_;refine Ev.ifT (show (((opnB++strOfNums [(exA es j).f1])++spB)++ta).size+1≤_ by omega) (Ev.bind ib ?_);refine Ev.ifT (show ((((opnB++strOfNums [(exA es j).f1])++spB)++ta)++spB).size+tb.size≤_ by omega) ?_;exact Ev.ifT (show (((((opnB++strOfNums [(exA es j).f1])++spB)++ta)++spB)++tb).size+1≤_ by omega) (Ev.now _)
  ·refine Ev.step (fun k=>by simp only [spec_l2Expr.f,rdE];exact rfl) ?_;refine Ev.ifT (by omega) (Ev.ifT (by omega) (Ev.ifF k0 (Ev.ifF k1 (Ev.bindS ?_))));rw [h4,h5];refine Ev.ifT (by omega) (Ev.ifT (show (opnB++strOfNums [(exA es j).f1]).size+1≤_ by omega) (Ev.bind sa_ ?_));refine Ev.ifT (show ((opnB++strOfNums [(exA es j).f1])++spB).size+ta.size≤_ by omega) ?_;refine Ev.ifT (show (((opnB++strOfNums [(exA es j).f1])++spB)++ta).size+1≤_ by omega) (Ev.bind sb_ ?_);refine Ev.ifT (show ((((opnB++strOfNums [(exA es j).f1])++spB)++ta)++spB).size+tb.size≤_ by omega) ?_;exact Ev.ifT (show (((((opnB++strOfNums [(exA es j).f1])++spB)++ta)++spB)++tb).size+1≤_ by omega) (Ev.now _)
  ·rw [nodeB_sz,o1,hsum];omega
theorem chain_in {fs:List Int} {xs:List Int} {n n':Int} (h:Chain fs xs n n'):∀x,x∈xs→∃m:Nat,x=(m:Int)∧m<fs.length:=by
 induction h with
 | nil n=>intro x hx;cases hx
 | cons x xs n n' hx hf h ih=>
  intro y hy;rcases List.mem_cons.1 hy with rfl|hy
  ·exact ⟨x,rfl,hx⟩
  ·exact ih y hy
def texB:Nat:=28311552
def actT (w:List ByteArray) (ts:List ByteArray):ByteArray:=(opnB++joinT (w++ts) spB)++clsB
theorem rd_get (xs:List Int) (i:Nat) (h:i<xs.length):rd xs (i:Int)=xs[i]:=by simp [rd,h]
theorem args_both {es:List S161} {fs ds:List Int} (h:TInv es es.length fs ds) (hb:∀e,e∈es→okByte e.f1) (hv:∀e,e∈es→I64 e.f3.f1) (nm:ByteArray) (sa:Int) (ps:List S42) (as_:List S98)
  (xs:List Int) (hx:∀x,x∈xs→∃m:Nat,x=(m:Int)∧m<fs.length):∃ts:List ByteArray,ts.length=xs.length∧(∀t,t∈ts→t.size≤texB)∧
   ∀i (hi:i<xs.length) (hi2:i<ts.length),Ev (fun k=>impl_Rule_expr.f k nm sa ps es as_ xs[i]) ts[i]∧Ev (fun k=>spec_l2Expr.f k es xs[i]) ts[i]:=by
 induction xs with
 | nil=>exact ⟨[],rfl,by simp,fun i hi=>absurd hi (by simp)⟩
 | cons x xs ih=>
  obtain ⟨ts,h1,h2,h3⟩:=ih (fun y hy=>hx y (List.mem_cons_of_mem _ hy));obtain ⟨m,rfl,hm⟩:=hx x List.mem_cons_self;obtain ⟨t,e1,e2,e3⟩:=ex_both h hb hv nm sa ps as_ m (by have:=h.lf;omega);obtain ⟨_,_,_,d20,_⟩:=h.at_ m (by have:=h.lf;omega);have h20:=p20 (d:=(ds.getD m 0).toNat) (by omega);refine ⟨t::ts,by simp [h1],?_,?_⟩
  ·intro u hu;rcases List.mem_cons.1 hu with rfl|hu
   ·unfold texB;omega
   ·exact h2 u hu
  ·intro i hi hi2;cases i with
   | zero=>exact ⟨e1,e2⟩
   | succ i=>exact h3 i (by simpa using hi) (by simpa using hi2)
theorem catS_le (ts:List ByteArray) (h:∀t,t∈ts→t.size≤texB):(cat (ts.map fun t=>spB++t)).size≤(texB+1) * ts.length:=
 cat_map_le (fun t=>spB++t) (texB+1) ts (fun t ht=>by rw [szA];have:=h t ht;show 1+_≤_;omega)
theorem rowT_ne (k K:Int) (cls:ByteArray):∃x xs,rowT k K cls=x::xs∧xs.length≤1:=by
 unfold rowT
 repeat' split
 all_goals exact ⟨_,_,rfl,by simp⟩
theorem join_row (k K:Int) (cls:ByteArray) (ts:List ByteArray):joinT (rowT k K cls++ts) spB=joinT (rowT k K cls) spB++cat (ts.map fun t=>spB++t):=by
 obtain ⟨x,xs,e,_⟩:=rowT_ne k K cls;rw [e,List.cons_append,joinT_cons,joinT_cons,List.map_append,cat_app];exact ByteArray.append_assoc.symm
theorem joinRow_le (k K:Int) (cls:ByteArray) (hk:k=1→cls.size≤20) (hK:I64 K):(joinT (rowT k K cls) spB).size≤100:=by
 have hi:=itoaB_size K hK;unfold rowT
 split
 ·rw [joinT_cons,szA,List.map_cons,List.map_nil,cat_cons_sz,szA];have:=hk ‹_›
  show 3+(1+cls.size+0)≤100;omega
 ·split
  ·rw [joinT_cons,szA,List.map_cons,List.map_nil,cat_cons_sz,szA];show 4+(1+(itoaB K).size+0)≤100;omega
  ·split
   ·rw [joinT_cons,szA,List.map_cons,List.map_nil,cat_cons_sz,szA];show 3+(1+(itoaB K).size+0)≤100;omega
   ·rw [joinT_cons,szA,List.map_nil];show 4+0≤100;omega
theorem joinA_le (k K:Int) (cls:ByteArray) (hk:k=1→cls.size≤20) (hK:I64 K) (ts:List ByteArray) (hl:ts.length≤6) (h:∀t,t∈ts→t.size≤texB):(joinT (rowT k K cls++ts) spB).size≤200000000:=by
 rw [join_row,szA];have h1:=joinRow_le k K cls hk hK;have h2:=catS_le ts h;have h3:(texB+1) * ts.length≤(texB+1)*6:=Nat.mul_le_mul_left _ hl
 have h4:(texB+1)*6=169869318:=rfl
 omega
theorem join2 (w v x:ByteArray) (h:v.data.toList=w.data.toList++[32]):v++x=joinT [w,x] spB:=by
 rw [joinT_cons];apply ba_ext
 rw [app_list,app_list,cat_list,h,List.map_cons,List.map_cons,List.map_nil,List.map_nil,List.flatten_cons,List.flatten_nil,List.append_nil,app_list,List.append_assoc];rfl
theorem act_both {es:List S161} {fs ds:List Int} (h:TInv es es.length fs ds) (hb:∀e,e∈es→okByte e.f1) (hv:∀e,e∈es→I64 e.f3.f1) (nm:ByteArray) (sa:Int) (ps:List S42) (as_:List S98)
  (a:S98) (ha:ActOK a) (hK:I64 a.f1) (hx:∀x,x∈a.f3→∃m:Nat,x=(m:Int)∧m<fs.length):
  ∃t:ByteArray,Ev (fun k=>impl_Rule_act.f k nm sa ps es as_ a.f0 a.f1 a.f2 a.f3) t∧Ev (fun k=>spec_l2Act.f k nm sa ps es as_ a.f0 a.f1 a.f2 a.f3) t∧t.size≤200000002:=by
 obtain ⟨ts,l1,l2,l3⟩:=args_both h hb hv nm sa ps as_ a.f3 hx;obtain ⟨hlen,hkind⟩:=ha
 have hk:a.f0=1∨a.f0=2∨a.f0=3∨a.f0=4:=by
  rcases hkind with g|⟨_,g|g|g⟩
  ·exact .inl g.1
  ·exact .inr (.inl g.1)
  ·exact .inr (.inr (.inl g))
  ·exact .inr (.inr (.inr g.1))
 have hcls:a.f0=1→a.f2.size≤20:=by
  intro e;rcases hkind with g|⟨_,g|g|g⟩
  ·have:=g.2.1
   unfold goodClsB at this
   rw [Bool.and_eq_true] at this;exact goodSym_sz this.1
  ·omega
  ·omega
  ·omega
 have hJ:=joinA_le a.f0 a.f1 a.f2 hcls hK ts (by omega) l2;obtain ⟨rx,rxs,re,rl⟩:=rowT_ne a.f0 a.f1 a.f2;have rlen:0<(rowT a.f0 a.f1 a.f2).length∧(rowT a.f0 a.f1 a.f2).length≤2:=by rw [re];simp;omega
 have hi:∀i,i≤a.f3.length→Ev (fun k=>impl_Rule_act.l0 k (rowT a.f0 a.f1 a.f2++ts.take i) a.f3 (a.f3.length:Int) (i:Int) nm sa ps es as_) (actT (rowT a.f0 a.f1 a.f2) ts):=by
  refine up_ind ?_ ?_
  ·refine Ev.step (fun k=>by simp only [impl_Rule_act.l0];exact rfl) ?_;refine Ev.ifF (by omega) ?_;rw [show ts.take a.f3.length=ts by rw [←l1];exact List.take_length]
   refine Ev.bindE (show strings_Join.f (rowT a.f0 a.f1 a.f2++ts) spB=some (joinT (rowT a.f0 a.f1 a.f2++ts) spB) by
    unfold strings_Join.f
    rw [if_pos ⟨by rw [List.length_append];omega,by rw [List.length_append];omega,by omega⟩]) ?_
   exact Ev.ifT (by omega) (Ev.ifT (by rw [szA];show 1+_+1≤_;omega) (Ev.now _))
  ·intro i hlt ih;have hlt2:i<ts.length:=by omega
   refine Ev.step (fun k=>by simp only [impl_Rule_act.l0];exact rfl) ?_;refine Ev.ifT (by omega) (Ev.ifT (by omega) (Ev.ifT (by omega) ?_));rw [rd_get _ _ hlt];refine Ev.bind (l3 i hlt hlt2).1 ?_;refine Ev.ifT (by rw [List.length_append,List.length_take];omega) ?_;rw [wrap_succ hlt (by omega)];rw [List.take_succ_eq_append_getElem hlt2,←List.append_assoc] at ih;exact ih
 have hs:∀i,i≤a.f3.length→Ev (fun k=>spec_l2Act.l0 k (joinT (rowT a.f0 a.f1 a.f2++ts.take i) spB) a.f3 (a.f3.length:Int) (i:Int) nm sa ps es as_) (actT (rowT a.f0 a.f1 a.f2) ts):=by
  refine up_ind ?_ ?_
  ·refine Ev.step (fun k=>by simp only [spec_l2Act.l0];exact rfl) ?_;refine Ev.ifF (by omega) ?_;rw [show ts.take a.f3.length=ts by rw [←l1];exact List.take_length];exact Ev.ifT (by omega) (Ev.ifT (by rw [szA];show 1+_+1≤_;omega) (Ev.now _))
  ·intro i hlt ih;have hlt2:i<ts.length:=by omega
   have ht:=l2 _ (List.getElem_mem hlt2);have hJi:=joinA_le a.f0 a.f1 a.f2 hcls hK (ts.take i) (by rw [List.length_take];omega) (fun t ht=>l2 t (List.mem_of_mem_take ht))
   have he:joinT (rowT a.f0 a.f1 a.f2++ts.take (i+1)) spB=joinT (rowT a.f0 a.f1 a.f2++ts.take i) spB++((⟨#[32]⟩:ByteArray)++ts[i]):=by
    rw [join_row,join_row,List.take_succ_eq_append_getElem hlt2,List.map_append,cat_app];rw [ByteArray.append_assoc];congr 2
    show (spB++ts[i])++⟨#[]⟩=spB++ts[i];exact ByteArray.append_empty
   rw [he] at ih;unfold texB at ht
   refine Ev.step (fun k=>by simp only [spec_l2Act.l0];exact rfl) ?_;refine Ev.ifT (by omega) (Ev.ifT (by omega) (Ev.ifT (by omega) ?_));rw [rd_get _ _ hlt];refine Ev.bind (l3 i hlt hlt2).2 ?_;refine Ev.ifT (by omega) (Ev.ifT (by rw [szA];show _+(1+_)≤_;omega) ?_);rw [wrap_succ hlt (by omega)];exact ih
 have hs0:=hs 0 (Nat.zero_le _);rw [List.take_zero,List.append_nil] at hs0;have hi0:=hi 0 (Nat.zero_le _);rw [List.take_zero,List.append_nil] at hi0;have hI:=itoaB_size a.f1 hK;obtain ⟨R,hR⟩:∃R,R=actT (rowT a.f0 a.f1 a.f2) ts:=⟨_,rfl⟩;rw [←hR] at hs0 hi0;refine ⟨R,Ev.congr (fun k=>by unfold impl_Rule_act.f;exact rfl) (Ev.ifT (And.intro hK hk) hi0),?_,?_⟩
 ·refine Ev.congr (fun k=>by unfold spec_l2Act.f;exact rfl) ?_;unfold rowT at hs0
  rcases hk with e|e|e|e
  ·rw [if_pos e] at hs0;have:=hcls e
   refine Ev.ifT e (Ev.ifT (by omega) (Ev.step (fun k=>by simp only [spec_l2Act.j0];exact rfl) ?_));refine Ev.congr (fun k=>?_) hs0;congr 1
   exact join2 _ _ _ rfl
  ·rw [if_neg (by omega),if_pos e] at hs0;refine Ev.ifF (by omega) (Ev.ifT e (Ev.bind (l1Dec_some _ hK) (Ev.ifT (by omega) (Ev.step (fun k=>by simp only [spec_l2Act.j0];exact rfl) ?_))));refine Ev.congr (fun k=>?_) hs0;congr 1
   exact join2 _ _ _ rfl
  ·rw [if_neg (by omega),if_neg (by omega),if_pos e] at hs0;refine Ev.ifF (by omega) (Ev.ifF (by omega) (Ev.ifT e (Ev.bind (l1Dec_some _ hK) (Ev.ifT (by omega) (Ev.step (fun k=>by simp only [spec_l2Act.j0];exact rfl) ?_)))));refine Ev.congr (fun k=>?_) hs0;congr 1
   exact join2 _ _ _ rfl
  ·rw [if_neg (by omega),if_neg (by omega),if_neg (by omega)] at hs0;refine Ev.ifF (by omega) (Ev.ifF (by omega) (Ev.ifF (by omega) (Ev.step (fun k=>by simp only [spec_l2Act.j0];exact rfl) ?_)));refine Ev.congr (fun k=>?_) hs0;congr 1
 ·rw [hR];unfold actT
  rw [szA,szA];show 1+_+1≤_;omega
end Go.Proofs.YtahambloheoebaaGreatDoor.Pure
namespace Go.Proofs.YtahambloheoebaaGreatDoor.Pure
open Go.RowKit Go.Proofs.YtahambloheoebaaGreatDoor.P Go.Proofs.YtahambloheoebaaGreatDoorW.PrintWords Go.Proofs.YtahambloheoebaaGreatDoorW.PrintLast Go.Proofs.YtahambloheoebaaGreatDoorX
set_option linter.unusedVariables false
set_option linter.unusedSimpArgs false
theorem gapD (p:ByteArray):(gapB++p).size=3+p.size:=by rw [szA];rfl
theorem apA (a b c:ByteArray):(a++b)++c=a++(b++c):=ByteArray.append_assoc
theorem apE (a:ByteArray):a++(⟨#[]⟩:ByteArray)=a:=ByteArray.append_empty
theorem patsF_ev:∀ps:List S42,(∀p,p∈ps→POk p)→Ev (fun k=>patsF k ps) (cat (ps.map fun p=>gapB++patT p))
 | [],_=>Ev.now _
 | p::ps,h=>by
  refine Ev.congr (fun k=>by unfold patsF;exact rfl) ?_;exact Ev.bind (implPat p (h p List.mem_cons_self)) (Ev.bind (patsF_ev ps (fun q hq=>h q (List.mem_cons_of_mem _ hq))) (Ev.now _))
structure ROk (q:S39):Prop where
 shape:ShapeOK q.f0 q.f2 q.f3 q.f4
 sal:I64 q.f1
 terms:∀p,p∈q.f2→∀t,t∈p.f2→I64 t.f3.f1
 bytes:∀e,e∈q.f3→okByte e.f1
 nums:∀e,e∈q.f3→I64 e.f3.f1
 places:∀a,a∈q.f4→I64 a.f1
theorem pok_of {q:S39} (h:ROk q):∀p,p∈q.f2→POk p:=by
 intro p hp;obtain ⟨_,_,_,_,hg,_⟩:=h.shape;obtain ⟨h1,h2,h3⟩:=goodPat_parts (hg p hp);unfold goodClsB at h1
 rw [Bool.and_eq_true] at h1;exact ⟨goodSym_sz h1.1,h2,fun t ht=>tok_of (h3 t ht) (h.terms p hp t ht)⟩
theorem acts_both {q:S39} (h:ROk q):∃T:List ByteArray,T.length=q.f4.length∧(∀t,t∈T→t.size≤200000002)∧Ev (fun k=>actsF k q q.f4) (cat (T.map fun t=>gapB++t))∧
  ∀i (hi:i<q.f4.length) (hi2:i<T.length),Ev (fun k=>spec_l2Act.f k q.f0 q.f1 q.f2 q.f3 q.f4 q.f4[i].f0 q.f4[i].f1 q.f4[i].f2 q.f4[i].f3) T[i]:=by
 obtain ⟨_,_,_,_,_,fs,ds,hT,hC⟩:=h.shape
 have key:∀(as_:List S98) (n n':Int),Chains fs as_ n n'→(∀a,a∈as_→I64 a.f1)→∃T:List ByteArray,T.length=as_.length∧(∀t,t∈T→t.size≤200000002)∧Ev (fun k=>actsF k q as_) (cat (T.map fun t=>gapB++t))∧
   ∀i (hi:i<as_.length) (hi2:i<T.length),Ev (fun k=>spec_l2Act.f k q.f0 q.f1 q.f2 q.f3 q.f4 as_[i].f0 as_[i].f1 as_[i].f2 as_[i].f3) T[i]:=by
  intro as_ n n' hch;induction hch with
  | nil n=>intro _;exact ⟨[],rfl,by simp,Ev.now _,fun i hi=>absurd hi (by simp)⟩
  | cons a as_ n m n' ha h1 h2 ih=>
   intro hk;obtain ⟨T,t1,t2,t3,t4⟩:=ih (fun b hb=>hk b (List.mem_cons_of_mem _ hb));obtain ⟨t,e1,e2,e3⟩:=act_both hT h.bytes h.nums q.f0 q.f1 q.f2 q.f4 a ha (hk a List.mem_cons_self) (chain_in h1);refine ⟨t::T,by simp [t1],?_,?_,?_⟩
   ·intro u hu;rcases List.mem_cons.1 hu with rfl|hu
    ·exact e3
    ·exact t2 u hu
   ·refine Ev.congr (fun k=>by unfold actsF;exact rfl) ?_;exact Ev.bind e1 (Ev.bind t3 (Ev.now _))
   ·intro i hi hi2;cases i with
    | zero=>exact e2
    | succ i=>exact t4 i (by simpa using hi) (by simpa using hi2)
 exact key q.f4 _ _ hC h.places
def ruleT (q:S39) (T:List ByteArray):ByteArray:=headB q++(cat (q.f2.map fun p=>gapB++patT p)++(arrB++(cat (T.map fun t=>gapB++t)++endB)))
theorem ruleF_ev {q:S39} (h:ROk q) {T:List ByteArray} (hT:Ev (fun k=>actsF k q q.f4) (cat (T.map fun t=>gapB++t))):Ev (fun k=>ruleF k q) (ruleT q T):=by
 obtain ⟨hn,hp,ha,_,_,_⟩:=h.shape;have hs:=goodSym_sz hn;refine Ev.congr (fun k=>by unfold ruleF;exact rfl) ?_;refine Ev.ifT (And.intro h.sal (And.intro (by omega) (And.intro (by omega) (by omega)))) ?_;exact Ev.bind (patsF_ev _ (pok_of h)) (Ev.bind hT (Ev.now _))
theorem pats_le {q:S39} (h:ROk q):(cat (q.f2.map fun p=>gapB++patT p)).size≤6030:=by
 have:=cat_map_le (fun p=>gapB++patT p) 1005 q.f2 (fun p hp=>by rw [gapD];have:=patT_le (pok_of h p hp);omega)
 obtain ⟨_,hp,_⟩:=h.shape;have:1005 * q.f2.length≤1005*6:=Nat.mul_le_mul_left _ hp
 omega
theorem actsT_le {q:S39} (h:ROk q) {T:List ByteArray} (hl:T.length=q.f4.length) (ht:∀t,t∈T→t.size≤200000002):(cat (T.map fun t=>gapB++t)).size≤1600000040:=by
 have:=cat_map_le (fun t=>gapB++t) 200000005 T (fun t hh=>by rw [gapD];have:=ht t hh;omega)
 obtain ⟨_,_,ha,_⟩:=h.shape;have:200000005 * T.length≤200000005*8:=Nat.mul_le_mul_left _ (by omega)
 omega
theorem headB_le {q:S39} (h:ROk q):(headB q).size≤48:=by
 obtain ⟨hn,_⟩:=h.shape;have hs:=goodSym_sz hn;have hi:=itoaB_size q.f1 h.sal;unfold headB
 rw [szA,szA,szA];show 6+_+1+_≤_;omega
theorem ruleT_le {q:S39} (h:ROk q) {T:List ByteArray} (hl:T.length=q.f4.length) (ht:∀t,t∈T→t.size≤200000002):(ruleT q T).size≤1600010000:=by
 have h1:=headB_le h;have h2:=pats_le h;have h3:=actsT_le h hl ht;unfold ruleT
 rw [szA,szA,szA,szA];show _+(_+(5+(_+2)))≤_;omega
section
variable {R:List S39} {i:Nat} {q:S39} {r:ByteArray}
theorem specTerms (ps:List S42) (j:Nat) (hj:j<ps.length) (hps:ps.length≤6) (p:S42) (hp:POk p) (y:ByteArray) (hy:y.size≤1152921504606846976)
  (hr:Ev (fun k=>spec_PrintRules.l1 k ((y++cat (p.f2.map fun t=>spB++termT t))++clsB) R (R.length:Int) (i:Int) ps (ps.length:Int) ((j+1:Nat):Int) q.f0 q.f1 q.f2 q.f3 q.f4) r):
  Ev (fun k=>spec_PrintRules.l2 k y R (R.length:Int) (i:Int) ps (ps.length:Int) (j:Int) p.f2 (p.f2.length:Int) 0 q.f0 q.f1 q.f2 q.f3 q.f4) r:=by
 obtain ⟨h1,h2,h3⟩:=hp
 have hc:∀m,(cat ((p.f2.take m).map fun t=>spB++termT t)).size≤390:=by
  intro m;have:=cat_map_le (fun t=>spB++termT t) 65 (p.f2.take m) (fun t ht=>by rw [szA];have:=termT_le (h3 t (List.mem_of_mem_take ht));show 1+_≤65;omega)
  have hl:(p.f2.take m).length≤6:=by rw [List.length_take];omega
  have:65*(p.f2.take m).length≤65*6:=Nat.mul_le_mul_left _ hl
  omega
 have key:∀m,m≤p.f2.length→Ev (fun k=>spec_PrintRules.l2 k (y++cat ((p.f2.take m).map fun t=>spB++termT t)) R (R.length:Int) (i:Int) ps (ps.length:Int) (j:Int) p.f2 (p.f2.length:Int) (m:Int) q.f0 q.f1 q.f2 q.f3 q.f4) r:=by
  refine up_ind ?_ ?_
  ·have hcm:=hc p.f2.length;refine Ev.step (fun k=>by simp only [spec_PrintRules.l2];exact rfl) ?_;refine Ev.ifF (by omega) (Ev.ifT (by rw [szA];omega) ?_);rw [wrap_succ hj (by omega),List.take_length];exact hr
  ·intro m hm ih;have hcm:=hc m;have ht:=termT_le (h3 _ (List.getElem_mem hm));refine Ev.step (fun k=>by simp only [spec_PrintRules.l2];exact rfl) ?_;refine Ev.ifT (by omega) (Ev.ifT (by omega) (Ev.ifT (by omega) ?_));rw [rdT _ _ hm];refine Ev.bind (specTerm _ (h3 _ (List.getElem_mem hm))) ?_;refine Ev.ifT (by omega) (Ev.ifT (by rw [szA,szA];show _+(1+_)≤_;omega) ?_);rw [wrap_succ hm (by omega)];rw [List.take_succ_eq_append_getElem hm,List.map_append,cat_app,←apA,List.map_cons,List.map_nil] at ih;rw [show cat [spB++termT p.f2[m]]=spB++termT p.f2[m] from apE _] at ih;exact ih
 have:=key 0 (Nat.zero_le _)
 rw [List.take_zero,List.map_nil] at this;rw [show y++cat []=y from apE y] at this;exact this
theorem rdP (l:List S42) (i:Nat) (h:i<l.length):rd_T42 l (i:Int)=l[i]:=by unfold rd_T42;simp [h]
theorem patsEq (x:ByteArray) (p:S42) (hn:p.f0=true):((((x++(⟨#[10,32,32,40]⟩:ByteArray))++(⟨#[110,111,116,32]⟩:ByteArray))++p.f1)++cat (p.f2.map fun t=>spB++termT t))++clsB=x++(gapB++patT p):=by
 rw [patT_eq,if_pos hn];apply ba_ext
 simp only [app_list,List.append_assoc];rfl
theorem patsEq' (x:ByteArray) (p:S42) (hn:¬p.f0=true):(((x++(⟨#[10,32,32,40]⟩:ByteArray))++p.f1)++cat (p.f2.map fun t=>spB++termT t))++clsB=x++(gapB++patT p):=by
 rw [patT_eq,if_neg hn];apply ba_ext
 simp only [app_list,List.append_assoc];rfl
theorem specPats (hq:ROk q) (y:ByteArray) (hy:y.size≤1099511627776)
  (hr:Ev (fun k=>spec_PrintRules.l3 k ((y++cat (q.f2.map fun p=>gapB++patT p))++arrB) R (R.length:Int) (i:Int) q.f4 (q.f4.length:Int) 0 q.f0 q.f1 q.f2 q.f3 q.f4) r):
  Ev (fun k=>spec_PrintRules.l1 k y R (R.length:Int) (i:Int) q.f2 (q.f2.length:Int) 0 q.f0 q.f1 q.f2 q.f3 q.f4) r:=by
 obtain ⟨_,hp6,_⟩:=hq.shape;have hok:=pok_of hq
 have hc:∀m,(cat ((q.f2.take m).map fun p=>gapB++patT p)).size≤6030:=by
  intro m;have:=cat_map_le (fun p=>gapB++patT p) 1005 (q.f2.take m) (fun p hp=>by rw [gapD];have:=patT_le (hok p (List.mem_of_mem_take hp));omega)
  have hl:(q.f2.take m).length≤6:=by rw [List.length_take];omega
  have:1005*(q.f2.take m).length≤1005*6:=Nat.mul_le_mul_left _ hl
  omega
 have key:∀m,m≤q.f2.length→Ev (fun k=>spec_PrintRules.l1 k (y++cat ((q.f2.take m).map fun p=>gapB++patT p)) R (R.length:Int) (i:Int) q.f2 (q.f2.length:Int) (m:Int) q.f0 q.f1 q.f2 q.f3 q.f4) r:=by
  refine up_ind ?_ ?_
  ·have hcm:=hc q.f2.length;refine Ev.step (fun k=>by simp only [spec_PrintRules.l1];exact rfl) ?_;refine Ev.ifF (by omega) (Ev.ifT (by rw [szA];omega) ?_);rw [List.take_length];exact hr
  ·intro m hm ih;have hcm:=hc m;have hp:=hok _ (List.getElem_mem hm);have hcl:=hp.1;rw [List.take_succ_eq_append_getElem hm,List.map_append,cat_app,←apA,List.map_cons,List.map_nil] at ih;rw [show cat [gapB++patT q.f2[m]]=gapB++patT q.f2[m] from apE _] at ih;refine Ev.step (fun k=>by simp only [spec_PrintRules.l1];exact rfl) ?_;refine Ev.ifT (by omega) (Ev.ifT (by omega) (Ev.ifT (by omega) (Ev.ifT (by rw [szA];omega) ?_)));rw [rdP _ _ hm];refine Ev.ite (fun c=>?_) (fun c=>?_)
   ·refine Ev.ifT (by rw [szA,szA];show _+4+4≤_;omega) ?_;refine Ev.step (fun k=>by simp only [spec_PrintRules.j2];exact rfl) ?_;refine Ev.ifT (by rw [szA,szA,szA];show _+4+4+_≤_;omega) ?_;refine specTerms q.f2 m hm hp6 q.f2[m] hp _ (by rw [szA,szA,szA,szA];show _+4+4+_≤_;omega) ?_;rw [patsEq _ _ c];exact ih
   ·refine Ev.step (fun k=>by simp only [spec_PrintRules.j2];exact rfl) ?_;refine Ev.ifT (by rw [szA,szA];show _+4+_≤_;omega) ?_;refine specTerms q.f2 m hm hp6 q.f2[m] hp _ (by rw [szA,szA,szA];show _+4+_≤_;omega) ?_;rw [patsEq' _ _ c];exact ih
 have:=key 0 (Nat.zero_le _)
 rw [List.take_zero,List.map_nil] at this;rw [show y++cat []=y from apE y] at this;exact this
theorem rdA (l:List S98) (i:Nat) (h:i<l.length):rd_T98 l (i:Int)=l[i]:=by unfold rd_T98;simp [h]
theorem specActs (hq:ROk q) (hi:i<R.length) (hR:R.length≤16) (T:List ByteArray) (hl:T.length=q.f4.length) (ht:∀t,t∈T→t.size≤200000002)
  (hs:∀i (hi:i<q.f4.length) (hi2:i<T.length),Ev (fun k=>spec_l2Act.f k q.f0 q.f1 q.f2 q.f3 q.f4 q.f4[i].f0 q.f4[i].f1 q.f4[i].f2 q.f4[i].f3) T[i])
  (y:ByteArray) (hy:y.size≤1152921504606846976)
  (hr:Ev (fun k=>spec_PrintRules.l0 k ((y++cat (T.map fun t=>gapB++t))++endB) R (R.length:Int) ((i+1:Nat):Int)) r):
  Ev (fun k=>spec_PrintRules.l3 k y R (R.length:Int) (i:Int) q.f4 (q.f4.length:Int) 0 q.f0 q.f1 q.f2 q.f3 q.f4) r:=by
 obtain ⟨_,_,ha8,_⟩:=hq.shape
 have hc:∀m,(cat ((T.take m).map fun t=>gapB++t)).size≤1600000040:=by
  intro m;have:=cat_map_le (fun t=>gapB++t) 200000005 (T.take m) (fun t hh=>by rw [gapD];have:=ht t (List.mem_of_mem_take hh);omega)
  have hl:(T.take m).length≤8:=by rw [List.length_take];omega
  have:200000005*(T.take m).length≤200000005*8:=Nat.mul_le_mul_left _ hl
  omega
 have key:∀m,m≤q.f4.length→Ev (fun k=>spec_PrintRules.l3 k (y++cat ((T.take m).map fun t=>gapB++t)) R (R.length:Int) (i:Int) q.f4 (q.f4.length:Int) (m:Int) q.f0 q.f1 q.f2 q.f3 q.f4) r:=by
  refine up_ind ?_ ?_
  ·have hcm:=hc q.f4.length;refine Ev.step (fun k=>by simp only [spec_PrintRules.l3];exact rfl) ?_;refine Ev.ifF (by omega) (Ev.ifT (by rw [szA];omega) ?_);rw [wrap_succ hi (by omega),show T.take q.f4.length=T by rw [←hl];exact List.take_length];exact hr
  ·intro m hm ih;have hm2:m<T.length:=by omega
   have hcm:=hc m;have htm:=ht _ (List.getElem_mem hm2);rw [List.take_succ_eq_append_getElem hm2,List.map_append,cat_app,←apA,List.map_cons,List.map_nil] at ih;rw [show cat [gapB++T[m]]=gapB++T[m] from apE _] at ih;refine Ev.step (fun k=>by simp only [spec_PrintRules.l3];exact rfl) ?_;refine Ev.ifT (by omega) (Ev.ifT (by omega) (Ev.ifT (by omega) ?_));rw [rdA _ _ hm];refine Ev.bind (hs m hm hm2) ?_;refine Ev.ifT (by omega) (Ev.ifT (by rw [szA,szA];show _+(3+_)≤_;omega) ?_);rw [wrap_succ hm (by omega)];exact ih
 have:=key 0 (Nat.zero_le _)
 rw [List.take_zero,List.map_nil] at this;rw [show y++cat []=y from apE y] at this;exact this
end
theorem rdR (l:List S39) (i:Nat) (h:i<l.length):rd_T39 l (i:Int)=l[i]:=by unfold rd_T39;simp [h]
theorem rules_both (R:List S39) (hR:R.length≤16) (hq:∀q,q∈R→ROk q):∃t:ByteArray,Ev (fun k=>rulesF k R) t∧Ev (fun k=>spec_PrintRules.l0 k (⟨#[]⟩:ByteArray) R (R.length:Int) 0) t∧t.size≤25600160000:=by
 have key:∀i,i≤R.length→∃t:ByteArray,Ev (fun k=>rulesF k (R.drop i)) t∧(∀acc:ByteArray,acc.size≤1600010000 * i→Ev (fun k=>spec_PrintRules.l0 k acc R (R.length:Int) (i:Int)) (acc++t))∧t.size≤1600010000*(R.length-i):=by
  refine up_ind ?_ ?_
  ·refine ⟨⟨#[]⟩,?_,fun acc _=>?_,by show 0≤_;omega⟩
   ·rw [List.drop_length];exact Ev.now _
   ·refine Ev.step (fun k=>by simp only [spec_PrintRules.l0];exact rfl) ?_;exact Ev.ifF (by omega) (Ev.as (Ev.now _) (apE _).symm)
  ·rintro i hi ⟨t,h1,h2,h3⟩;have ho:=hq _ (List.getElem_mem hi);obtain ⟨T,t1,t2,t3,t4⟩:=acts_both ho;have hle:=ruleT_le ho t1 t2;have hhd:=headB_le ho;have hpl:=pats_le ho;obtain ⟨hn,_⟩:=ho.shape;have hsn:=goodSym_sz hn;have hii:=itoaB_size _ ho.sal;have hmul:1600010000*(i+1)=1600010000 * i+1600010000:=by omega
   have hmul2:1600010000*(R.length-i)=1600010000*(R.length-(i+1))+1600010000:=by
    rw [show R.length-i=(R.length-(i+1))+1 by omega,Nat.mul_succ]
   have hmul3:1600010000 * i≤1600010000*16:=Nat.mul_le_mul_left _ (by omega)
   refine ⟨ruleT R[i] T++t,?_,fun acc ha=>?_,by rw [szA];omega⟩
   ·rw [List.drop_eq_getElem_cons hi];refine Ev.congr (fun k=>by unfold rulesF;exact rfl) ?_;exact Ev.bind (ruleF_ev ho t3) (Ev.bind h1 (Ev.now _))
   ·have h4:=h2 (acc++ruleT R[i] T) (by rw [szA];omega);rw [apA] at h4
    have e1:((((acc++headB R[i])++cat (R[i].f2.map fun p=>gapB++patT p))++arrB)++cat (T.map fun t=>gapB++t))++endB=acc++ruleT R[i] T:=by
     unfold ruleT
     simp only [apA]
    rw [←e1] at h4;have hm1:(⟨#[40,114,117,108,101,32]⟩++R[i].f0:ByteArray).size=6+R[i].f0.size:=szA _ _
    refine Ev.step (fun k=>by simp only [spec_PrintRules.l0];exact rfl) ?_;refine Ev.ifT (by omega) (Ev.ifT (by omega) (Ev.ifT (by omega) ?_));rw [rdR _ _ hi];refine Ev.ifT (by omega) (Ev.ifT (by omega) (Ev.bind (l1Dec_some _ ho.sal) ?_));refine Ev.ifT (by rw [szA,hm1];show 6+_+1+_≤_;omega) (Ev.ifT (show acc.size+(headB R[i]).size≤_ by omega) ?_);refine specPats ho (acc++headB R[i]) (by rw [szA];omega) ?_;exact specActs ho hi hR T t1 t2 t4 _ (by rw [szA,szA,szA];show _+_+_+5≤_;omega) h4
 obtain ⟨t,h1,h2,h3⟩:=key 0 (Nat.zero_le _);have h4:=h2 ⟨#[]⟩ (Nat.zero_le _);rw [show (⟨#[]⟩:ByteArray)++t=t from ByteArray.empty_append] at h4;have:1600010000*(R.length-0)≤1600010000*16:=Nat.mul_le_mul_left _ (by omega)
 exact ⟨t,h1,h4,by omega⟩
end Go.Proofs.YtahambloheoebaaGreatDoor.Pure
namespace Go.Proofs.YtahambloheoebaaGreatDoor.Pure
open Go.RowKit Go.Proofs.YtahambloheoebaaGreatDoor.P Go.Proofs.YtahambloheoebaaGreatDoorW.PrintWords Go.Proofs.YtahambloheoebaaGreatDoorW.PrintLast Go.Proofs.YtahambloheoebaaGreatDoorX
set_option linter.unusedVariables false
set_option linter.unusedSimpArgs false
theorem sz_IntS (xs:List Int) (ol:xs.length≤9223372036854775807) (left:Int) (h0:0≤left) (h1:left≤1048576):laws_szIntS.f xs left=some (szv xs.length left):=by
 have e:wrap64 (left-(xs.length:Int))=left-(xs.length:Int):=wrap_left h0 h1 ol
 unfold laws_szIntS.f
 rw [e];by_cases c:left-(xs.length:Int)<0
 ·rw [if_pos c,szv_neg (by omega)]
 ·rw [if_neg c,szv_pos (by omega)]
theorem to_IntS (xs:List Int) (hs:xs.length≤1048576):Ev (fun k=>laws_toIntS.f k xs) xs:=by
 have key:=to_loop xs (0:Int) id (fun k out i=>laws_toIntS.l0 k xs out i) ?_ ?_ (List.replicate xs.length (0:Int)) List.length_replicate
 ·obtain ⟨K,hK⟩:=key;refine ⟨K,fun k hk=>?_⟩;dsimp only
  unfold laws_toIntS.f
  rw [if_pos (by omega),if_pos (by rw [Int.toNat_natCast];omega),Int.toNat_natCast];have:=hK k hk
  rw [List.map_id] at this;exact this
 ·intro i out r hi ho h;obtain ⟨K,hK⟩:=h;have hrd:rd xs (i:Int)=xs.getD i 0:=by simp [rd]
  refine ⟨K+1,fun k hk=>?_⟩;dsimp only
  obtain ⟨m,rfl⟩:∃m,k=m+1:=⟨k-1,by omega⟩;simp only [laws_toIntS.l0];rw [if_pos (by omega),if_pos (by omega),if_pos (by omega),hrd,wrap_succ hi (by omega),Int.toNat_natCast];exact hK m (by omega)
 ·intro out ho;refine ⟨1,fun k hk=>?_⟩;dsimp only
  obtain ⟨m,rfl⟩:∃m,k=m+1:=⟨k-1,by omega⟩;simp only [laws_toIntS.l0];rw [if_neg (by omega)]
theorem eq_IntS (xs:List Int) (hl:xs.length≤9223372036854775807):Ev (fun k=>laws_eqIntS.f k xs xs) true:=by
 have key:=eq_loop xs.length (fun k i=>laws_eqIntS.l0 k xs xs i) ?_ ?_
 ·obtain ⟨K,hK⟩:=key;refine ⟨K,fun k hk=>?_⟩;dsimp only
  unfold laws_eqIntS.f
  rw [if_pos (by trivial)];exact hK k hk
 ·intro i hi h;obtain ⟨K,hK⟩:=h;refine ⟨K+1,fun k hk=>?_⟩;dsimp only
  obtain ⟨m,rfl⟩:∃m,k=m+1:=⟨k-1,by omega⟩;simp only [laws_eqIntS.l0];rw [if_pos (by omega),if_pos (by omega),if_pos (by omega),if_pos (by trivial),wrap_succ hi hl];exact hK m (by omega)
 ·refine ⟨1,fun k hk=>?_⟩;dsimp only
  obtain ⟨m,rfl⟩:∃m,k=m+1:=⟨k-1,by omega⟩;simp only [laws_eqIntS.l0];rw [if_neg (by omega)]
def cvValue (x:S183):S80:=⟨x.f0,x.f1,x.f2⟩
def tzValue (x:S183):Nat:=x.f2.size
def okValue (x:S183):Prop:=okInt x.f0∧okInt x.f1∧x.f2.size≤9223372036854775807
theorem sz_Value (x:S183) (hok:okValue x) (left:Int) (h0:0≤left) (h1:left≤1048576):laws_szValue.f x.f0 x.f1 x.f2 left=some (szv (tzValue x) left):=by
 obtain ⟨o0,o1,o2⟩:=hok;have e2:wrap64 (left-(x.f2.size:Int))=left-(x.f2.size:Int):=wrap_left (by omega) (by omega) o2
 by_cases c2:left-(x.f2.size:Int)<0
 ·have hz:szv (tzValue x) left=-1:=szv_neg (by unfold tzValue;omega)
  rw [hz];unfold laws_szValue.f
  rw [e2,if_pos c2];try rfl
 ·skip;have hz:szv (tzValue x) left=(left-(x.f2.size:Int)):=by rw [szv_pos (by unfold tzValue;omega)];unfold tzValue;omega
  rw [hz];unfold laws_szValue.f
  rw [e2,if_neg c2];try rfl
theorem eq_Value (x:S80):laws_eqValue.f x.f0 x.f1 x.f2 x.f0 x.f1 x.f2=some true:=by
 unfold laws_eqValue.f
 rw [if_pos (by trivial)];rw [if_pos (by trivial)];rw [if_pos (by trivial)]
def cvTerm (x:S253):S86:=⟨x.f0,x.f1,x.f2,(cvValue x.f3)⟩
def tzTerm (x:S253):Nat:=x.f2.size+tzValue x.f3
def okTerm (x:S253):Prop:=okInt x.f0∧okInt x.f1∧x.f2.size≤9223372036854775807∧okValue x.f3
def tzTermS (xs:List S253):Nat:=xs.length+(xs.map tzTerm).sum
def okTermS (xs:List S253):Prop:=xs.length≤9223372036854775807∧∀x,x∈xs→okTerm x
theorem sz_Term (x:S253) (hok:okTerm x) (left:Int) (h0:0≤left) (h1:left≤1048576):laws_szTerm.f x.f0 x.f1 x.f2 x.f3.f0 x.f3.f1 x.f3.f2 left=some (szv (tzTerm x) left):=by
 obtain ⟨o0,o1,o2,o3⟩:=hok;have e2:wrap64 (left-(x.f2.size:Int))=left-(x.f2.size:Int):=wrap_left (by omega) (by omega) o2
 by_cases c2:left-(x.f2.size:Int)<0
 ·have hz:szv (tzTerm x) left=-1:=szv_neg (by unfold tzTerm;omega)
  rw [hz];unfold laws_szTerm.f
  rw [e2,if_pos c2];try rfl
 ·skip;have s3:=sz_Value x.f3 o3 (left-(x.f2.size:Int)) (by omega) (by omega);by_cases c3:(left-(x.f2.size:Int))<((tzValue x.f3:Nat):Int)
  ·have hz:szv (tzTerm x) left=-1:=szv_neg (by unfold tzTerm;omega)
   rw [hz];rw [szv_neg c3] at s3;unfold laws_szTerm.f
   rw [e2,if_neg c2];rw [s3];rfl
  ·have d3:((tzValue x.f3:Nat):Int)≤(left-(x.f2.size:Int)):=by omega
   rw [szv_pos d3] at s3;have hz:szv (tzTerm x) left=((left-(x.f2.size:Int))-((tzValue x.f3:Nat):Int)):=by rw [szv_pos (by unfold tzTerm;omega)];unfold tzTerm;omega
   rw [hz];unfold laws_szTerm.f
   rw [e2,if_neg c2];rw [s3];simp only [Option.bind_some];rw [if_neg (by omega)];try rfl
theorem to_Term (x:S253):laws_toTerm.f x.f0 x.f1 x.f2 x.f3.f0 x.f3.f1 x.f3.f2=some (x.f0,x.f1,x.f2,x.f3.f0,x.f3.f1,x.f3.f2):=rfl
theorem eq_Term (x:S86):laws_eqTerm.f x.f0 x.f1 x.f2 x.f3.f0 x.f3.f1 x.f3.f2 x.f0 x.f1 x.f2 x.f3.f0 x.f3.f1 x.f3.f2=some true:=by
 unfold laws_eqTerm.f
 rw [if_pos (by trivial)];rw [if_pos (by trivial)];rw [if_pos (by trivial)];rw [eq_Value x.f3];simp only [Option.bind_some];rw [if_pos (by trivial)]
theorem sz_TermS (xs:List S253) (hok:okTermS xs) (left:Int) (h0:0≤left) (h1:left≤1048576):Ev (fun k=>laws_szTermS.f k xs left) (szv (tzTermS xs) left):=by
 obtain ⟨ol,oe⟩:=hok;have e:wrap64 (left-(xs.length:Int))=left-(xs.length:Int):=wrap_left h0 h1 ol
 by_cases c:left-(xs.length:Int)<0
 ·have hz:szv (tzTermS xs) left=-1:=szv_neg (by unfold tzTermS;omega)
  rw [hz];refine ⟨0,fun k _=>?_⟩;dsimp only
  unfold laws_szTermS.f
  rw [e,if_pos c]
 ·have hz:szv (tzTermS xs) left=szv (xs.map tzTerm).sum (left-(xs.length:Int)):=by unfold szv tzTermS;split<;>split<;>omega
  rw [hz];have key:=sz_loop xs z253 tzTerm (fun k l i=>laws_szTermS.l0 k xs l i) ?_ ?_ (left-(xs.length:Int)) (by omega) (by omega)
  ·obtain ⟨K,hK⟩:=key;refine ⟨K,fun k hk=>?_⟩;dsimp only
   unfold laws_szTermS.f
   rw [e,if_neg c];exact hK k hk
  ·intro i l r hi g0 g1 hneg hpos;have hrd:rd_T253 xs (i:Int)=xs.getD i z253:=by simp [rd_T253]
   have s:=sz_Term (xs.getD i z253) (oe _ (getD_in _ hi)) l g0 g1;by_cases c2:l<(tzTerm (xs.getD i z253):Int)
   ·rw [hneg c2];rw [szv_neg c2] at s;refine ⟨0+1,fun k hk=>?_⟩;dsimp only
    obtain ⟨m,rfl⟩:∃m,k=m+1:=⟨k-1,by omega⟩;simp only [laws_szTermS.l0];rw [if_pos (by omega),if_pos (by omega),hrd,s];rfl
   ·have d2:(tzTerm (xs.getD i z253):Int)≤l:=by omega
    obtain ⟨K2,h2⟩:=hpos d2;rw [szv_pos d2] at s;refine ⟨K2+1,fun k hk=>?_⟩;dsimp only
    obtain ⟨m,rfl⟩:∃m,k=m+1:=⟨k-1,by omega⟩;simp only [laws_szTermS.l0];rw [if_pos (by omega),if_pos (by omega),hrd,s];simp only [Option.bind_some];rw [if_neg (by omega),wrap_succ hi ol];exact h2 m (by omega)
  ·intro l;refine ⟨1,fun k hk=>?_⟩;dsimp only
   obtain ⟨m,rfl⟩:∃m,k=m+1:=⟨k-1,by omega⟩;simp only [laws_szTermS.l0];rw [if_neg (by omega)]
theorem to_TermS (xs:List S253) (hs:tzTermS xs≤1048576):Ev (fun k=>laws_toTermS.f k xs) (xs.map cvTerm):=by
 unfold tzTermS at hs
 have key:=to_loop xs z253 cvTerm (fun k out i=>laws_toTermS.l0 k xs out i) ?_ ?_ (List.replicate xs.length z86) List.length_replicate
 ·obtain ⟨K,hK⟩:=key;refine ⟨K,fun k hk=>?_⟩;dsimp only
  unfold laws_toTermS.f
  rw [if_pos (by omega),if_pos (by rw [Int.toNat_natCast];omega),Int.toNat_natCast];exact hK k hk
 ·intro i out r hi ho h;obtain ⟨K,hK⟩:=h;have hrd:rd_T253 xs (i:Int)=xs.getD i z253:=by simp [rd_T253]
  have h1:=to_Term (xs.getD i z253);refine ⟨K+1,fun k hk=>?_⟩;dsimp only
  obtain ⟨m,rfl⟩:∃m,k=m+1:=⟨k-1,by omega⟩;simp only [laws_toTermS.l0];rw [if_pos (by omega),if_pos (by omega),hrd,h1];simp only [Option.bind_some];rw [if_pos (by omega),wrap_succ hi (by omega),Int.toNat_natCast];exact hK m (by omega)
 ·intro out ho;refine ⟨1,fun k hk=>?_⟩;dsimp only
  obtain ⟨m,rfl⟩:∃m,k=m+1:=⟨k-1,by omega⟩;simp only [laws_toTermS.l0];rw [if_neg (by omega)]
theorem eq_TermS (xs:List S86) (hl:xs.length≤9223372036854775807):Ev (fun k=>laws_eqTermS.f k xs xs) true:=by
 have key:=eq_loop xs.length (fun k i=>laws_eqTermS.l0 k xs xs i) ?_ ?_
 ·obtain ⟨K,hK⟩:=key;refine ⟨K,fun k hk=>?_⟩;dsimp only
  unfold laws_eqTermS.f
  rw [if_pos (by trivial)];exact hK k hk
 ·intro i hi h;obtain ⟨K,hK⟩:=h;have hrd:rd_T86 xs (i:Int)=xs.getD i z86:=by simp [rd_T86]
  have h1:=eq_Term (xs.getD i z86);refine ⟨K+1,fun k hk=>?_⟩;dsimp only
  obtain ⟨m,rfl⟩:∃m,k=m+1:=⟨k-1,by omega⟩;simp only [laws_eqTermS.l0];rw [if_pos (by omega),if_pos (by omega),if_pos (by omega),hrd,h1];simp only [Option.bind_some];rw [if_pos (by trivial),wrap_succ hi hl];exact hK m (by omega)
 ·refine ⟨1,fun k hk=>?_⟩;dsimp only
  obtain ⟨m,rfl⟩:∃m,k=m+1:=⟨k-1,by omega⟩;simp only [laws_eqTermS.l0];rw [if_neg (by omega)]
def cvPattern (x:S181):S42:=⟨x.f0,x.f1,(x.f2.map cvTerm)⟩
def tzPattern (x:S181):Nat:=x.f1.size+tzTermS x.f2
def okPattern (x:S181):Prop:=x.f1.size≤9223372036854775807∧okTermS x.f2
def tzPatternS (xs:List S181):Nat:=xs.length+(xs.map tzPattern).sum
def okPatternS (xs:List S181):Prop:=xs.length≤9223372036854775807∧∀x,x∈xs→okPattern x
theorem sz_Pattern (x:S181) (hok:okPattern x) (left:Int) (h0:0≤left) (h1:left≤1048576):Ev (fun k=>laws_szPattern.f k x.f0 x.f1 x.f2 left) (szv (tzPattern x) left):=by
 obtain ⟨o1,o2⟩:=hok;have e1:wrap64 (left-(x.f1.size:Int))=left-(x.f1.size:Int):=wrap_left (by omega) (by omega) o1
 by_cases c1:left-(x.f1.size:Int)<0
 ·have hz:szv (tzPattern x) left=-1:=szv_neg (by unfold tzPattern;omega)
  rw [hz];refine ⟨0,fun k hk=>?_⟩;dsimp only
  unfold laws_szPattern.f
  rw [e1,if_pos c1];try rfl
 ·skip;obtain ⟨K2,s2⟩:=sz_TermS x.f2 o2 (left-(x.f1.size:Int)) (by omega) (by omega);by_cases c2:(left-(x.f1.size:Int))<((tzTermS x.f2:Nat):Int)
  ·have hz:szv (tzPattern x) left=-1:=szv_neg (by unfold tzPattern;omega)
   rw [hz];simp only [szv_neg c2] at s2;refine ⟨K2,fun k hk=>?_⟩;dsimp only
   unfold laws_szPattern.f
   rw [e1,if_neg c1];rw [s2 k (by omega)];rfl
  ·have d2:((tzTermS x.f2:Nat):Int)≤(left-(x.f1.size:Int)):=by omega
   simp only [szv_pos d2] at s2;have hz:szv (tzPattern x) left=((left-(x.f1.size:Int))-((tzTermS x.f2:Nat):Int)):=by rw [szv_pos (by unfold tzPattern;omega)];unfold tzPattern;omega
   rw [hz];refine ⟨K2,fun k hk=>?_⟩;dsimp only
   unfold laws_szPattern.f
   rw [e1,if_neg c1];rw [s2 k (by omega)];simp only [Option.bind_some];rw [if_neg (by omega)];try rfl
theorem to_Pattern (x:S181) (hs:tzPattern x≤1048576):Ev (fun k=>laws_toPattern.f k x.f0 x.f1 x.f2) (x.f0,x.f1,(x.f2.map cvTerm)):=by
 unfold tzPattern at hs
 obtain ⟨K2,h2⟩:=to_TermS x.f2 (by omega);dsimp only at h2
 refine ⟨K2,fun k hk=>?_⟩;dsimp only
 unfold laws_toPattern.f
 rw [h2 k (by omega)];simp only [Option.bind_some];try rfl
def lePattern (x:S42):Prop:=x.f2.length≤9223372036854775807
theorem eq_Pattern (x:S42) (hl:lePattern x):Ev (fun k=>laws_eqPattern.f k x.f0 x.f1 x.f2 x.f0 x.f1 x.f2) true:=by
 have o2:=hl;unfold lePattern at o2
 obtain ⟨K2,h2⟩:=eq_TermS x.f2 o2;dsimp only at h2
 refine ⟨K2,fun k hk=>?_⟩;dsimp only
 unfold laws_eqPattern.f
 rw [if_neg (by simp)];rw [if_pos (by trivial)];rw [h2 k (by omega)];simp only [Option.bind_some];rw [if_pos (by trivial)]
theorem sz_PatternS (xs:List S181) (hok:okPatternS xs) (left:Int) (h0:0≤left) (h1:left≤1048576):Ev (fun k=>laws_szPatternS.f k xs left) (szv (tzPatternS xs) left):=by
 obtain ⟨ol,oe⟩:=hok;have e:wrap64 (left-(xs.length:Int))=left-(xs.length:Int):=wrap_left h0 h1 ol
 by_cases c:left-(xs.length:Int)<0
 ·have hz:szv (tzPatternS xs) left=-1:=szv_neg (by unfold tzPatternS;omega)
  rw [hz];refine ⟨0,fun k _=>?_⟩;dsimp only
  unfold laws_szPatternS.f
  rw [e,if_pos c]
 ·have hz:szv (tzPatternS xs) left=szv (xs.map tzPattern).sum (left-(xs.length:Int)):=by unfold szv tzPatternS;split<;>split<;>omega
  rw [hz];have key:=sz_loop xs z181 tzPattern (fun k l i=>laws_szPatternS.l0 k xs l i) ?_ ?_ (left-(xs.length:Int)) (by omega) (by omega)
  ·obtain ⟨K,hK⟩:=key;refine ⟨K,fun k hk=>?_⟩;dsimp only
   unfold laws_szPatternS.f
   rw [e,if_neg c];exact hK k hk
  ·intro i l r hi g0 g1 hneg hpos;have hrd:rd_T181 xs (i:Int)=xs.getD i z181:=by simp [rd_T181]
   obtain ⟨K1,s⟩:=sz_Pattern (xs.getD i z181) (oe _ (getD_in _ hi)) l g0 g1;by_cases c2:l<(tzPattern (xs.getD i z181):Int)
   ·rw [hneg c2];simp only [szv_neg c2] at s;refine ⟨K1+1,fun k hk=>?_⟩;dsimp only
    obtain ⟨m,rfl⟩:∃m,k=m+1:=⟨k-1,by omega⟩;simp only [laws_szPatternS.l0];rw [if_pos (by omega),if_pos (by omega),hrd,s m (by omega)];rfl
   ·have d2:(tzPattern (xs.getD i z181):Int)≤l:=by omega
    obtain ⟨K2,h2⟩:=hpos d2;simp only [szv_pos d2] at s;refine ⟨K1+K2+1,fun k hk=>?_⟩;dsimp only
    obtain ⟨m,rfl⟩:∃m,k=m+1:=⟨k-1,by omega⟩;simp only [laws_szPatternS.l0];rw [if_pos (by omega),if_pos (by omega),hrd,s m (by omega)];simp only [Option.bind_some];rw [if_neg (by omega),wrap_succ hi ol];exact h2 m (by omega)
  ·intro l;refine ⟨1,fun k hk=>?_⟩;dsimp only
   obtain ⟨m,rfl⟩:∃m,k=m+1:=⟨k-1,by omega⟩;simp only [laws_szPatternS.l0];rw [if_neg (by omega)]
theorem to_PatternS (xs:List S181) (hs:tzPatternS xs≤1048576):Ev (fun k=>laws_toPatternS.f k xs) (xs.map cvPattern):=by
 unfold tzPatternS at hs
 have key:=to_loop xs z181 cvPattern (fun k out i=>laws_toPatternS.l0 k xs out i) ?_ ?_ (List.replicate xs.length z42) List.length_replicate
 ·obtain ⟨K,hK⟩:=key;refine ⟨K,fun k hk=>?_⟩;dsimp only
  unfold laws_toPatternS.f
  rw [if_pos (by omega),if_pos (by rw [Int.toNat_natCast];omega),Int.toNat_natCast];exact hK k hk
 ·intro i out r hi ho h;obtain ⟨K,hK⟩:=h;have hrd:rd_T181 xs (i:Int)=xs.getD i z181:=by simp [rd_T181]
  have hm:=sum_le_of_mem tzPattern xs _ (getD_in z181 hi);obtain ⟨K1,h1⟩:=to_Pattern (xs.getD i z181) (by omega);dsimp only at h1
  refine ⟨K1+K+1,fun k hk=>?_⟩;dsimp only
  obtain ⟨m,rfl⟩:∃m,k=m+1:=⟨k-1,by omega⟩;simp only [laws_toPatternS.l0];rw [if_pos (by omega),if_pos (by omega),hrd,h1 m (by omega)];simp only [Option.bind_some];rw [if_pos (by omega),wrap_succ hi (by omega),Int.toNat_natCast];exact hK m (by omega)
 ·intro out ho;refine ⟨1,fun k hk=>?_⟩;dsimp only
  obtain ⟨m,rfl⟩:∃m,k=m+1:=⟨k-1,by omega⟩;simp only [laws_toPatternS.l0];rw [if_neg (by omega)]
def lePatternS (xs:List S42):Prop:=xs.length≤9223372036854775807∧∀x,x∈xs→lePattern x
theorem eq_PatternS (xs:List S42) (hl:lePatternS xs):Ev (fun k=>laws_eqPatternS.f k xs xs) true:=by
 obtain ⟨hl,he⟩:=hl;have key:=eq_loop xs.length (fun k i=>laws_eqPatternS.l0 k xs xs i) ?_ ?_
 ·obtain ⟨K,hK⟩:=key;refine ⟨K,fun k hk=>?_⟩;dsimp only
  unfold laws_eqPatternS.f
  rw [if_pos (by trivial)];exact hK k hk
 ·intro i hi h;obtain ⟨K,hK⟩:=h;have hrd:rd_T42 xs (i:Int)=xs.getD i z42:=by simp [rd_T42]
  obtain ⟨K1,h1⟩:=eq_Pattern (xs.getD i z42) (he _ (getD_in _ hi));dsimp only at h1
  refine ⟨K1+K+1,fun k hk=>?_⟩;dsimp only
  obtain ⟨m,rfl⟩:∃m,k=m+1:=⟨k-1,by omega⟩;simp only [laws_eqPatternS.l0];rw [if_pos (by omega),if_pos (by omega),if_pos (by omega),hrd,h1 m (by omega)];simp only [Option.bind_some];rw [if_pos (by trivial),wrap_succ hi hl];exact hK m (by omega)
 ·refine ⟨1,fun k hk=>?_⟩;dsimp only
  obtain ⟨m,rfl⟩:∃m,k=m+1:=⟨k-1,by omega⟩;simp only [laws_eqPatternS.l0];rw [if_neg (by omega)]
theorem le_cvPattern (x:S181) (hs:tzPattern x≤1048576):lePattern (cvPattern x):=by
 unfold tzPattern at hs
 exact by show (x.f2.map cvTerm).length≤_;rw [List.length_map];unfold tzTermS at hs;omega
theorem le_cvPatternS (xs:List S181) (hs:tzPatternS xs≤1048576):lePatternS (xs.map cvPattern):=by
 unfold tzPatternS at hs
 refine ⟨by rw [List.length_map];omega,fun y hy=>?_⟩;obtain ⟨x,hx,rfl⟩:=List.mem_map.1 hy;have:=sum_le_of_mem tzPattern xs x hx
 exact le_cvPattern x (by omega)
def cvExpr (x:S185):S161:=⟨x.f0,x.f1,x.f2,(cvValue x.f3),x.f4,x.f5⟩
def tzExpr (x:S185):Nat:=x.f2.size+tzValue x.f3
def okExpr (x:S185):Prop:=okInt x.f0∧okByte x.f1∧x.f2.size≤9223372036854775807∧okValue x.f3∧okInt x.f4∧okInt x.f5
def tzExprS (xs:List S185):Nat:=xs.length+(xs.map tzExpr).sum
def okExprS (xs:List S185):Prop:=xs.length≤9223372036854775807∧∀x,x∈xs→okExpr x
theorem sz_Expr (x:S185) (hok:okExpr x) (left:Int) (h0:0≤left) (h1:left≤1048576):laws_szExpr.f x.f0 x.f1 x.f2 x.f3.f0 x.f3.f1 x.f3.f2 x.f4 x.f5 left=some (szv (tzExpr x) left):=by
 obtain ⟨o0,o1,o2,o3,o4,o5⟩:=hok;have e2:wrap64 (left-(x.f2.size:Int))=left-(x.f2.size:Int):=wrap_left (by omega) (by omega) o2
 by_cases c2:left-(x.f2.size:Int)<0
 ·have hz:szv (tzExpr x) left=-1:=szv_neg (by unfold tzExpr;omega)
  rw [hz];unfold laws_szExpr.f
  rw [e2,if_pos c2];try rfl
 ·skip;have s3:=sz_Value x.f3 o3 (left-(x.f2.size:Int)) (by omega) (by omega);by_cases c3:(left-(x.f2.size:Int))<((tzValue x.f3:Nat):Int)
  ·have hz:szv (tzExpr x) left=-1:=szv_neg (by unfold tzExpr;omega)
   rw [hz];rw [szv_neg c3] at s3;unfold laws_szExpr.f
   rw [e2,if_neg c2];rw [s3];rfl
  ·have d3:((tzValue x.f3:Nat):Int)≤(left-(x.f2.size:Int)):=by omega
   rw [szv_pos d3] at s3;have hz:szv (tzExpr x) left=((left-(x.f2.size:Int))-((tzValue x.f3:Nat):Int)):=by rw [szv_pos (by unfold tzExpr;omega)];unfold tzExpr;omega
   rw [hz];unfold laws_szExpr.f
   rw [e2,if_neg c2];rw [s3];simp only [Option.bind_some];rw [if_neg (by omega)];try rfl
theorem to_Expr (x:S185):laws_toExpr.f x.f0 x.f1 x.f2 x.f3.f0 x.f3.f1 x.f3.f2 x.f4 x.f5=some (x.f0,x.f1,x.f2,x.f3.f0,x.f3.f1,x.f3.f2,x.f4,x.f5):=rfl
theorem eq_Expr (x:S161):laws_eqExpr.f x.f0 x.f1 x.f2 x.f3.f0 x.f3.f1 x.f3.f2 x.f4 x.f5 x.f0 x.f1 x.f2 x.f3.f0 x.f3.f1 x.f3.f2 x.f4 x.f5=some true:=by
 unfold laws_eqExpr.f
 rw [if_pos (by trivial)];rw [if_pos (by trivial)];rw [if_pos (by trivial)];rw [eq_Value x.f3];simp only [Option.bind_some];rw [if_pos (by trivial)];rw [if_pos (by trivial)];rw [if_pos (by trivial)]
theorem sz_ExprS (xs:List S185) (hok:okExprS xs) (left:Int) (h0:0≤left) (h1:left≤1048576):Ev (fun k=>laws_szExprS.f k xs left) (szv (tzExprS xs) left):=by
 obtain ⟨ol,oe⟩:=hok;have e:wrap64 (left-(xs.length:Int))=left-(xs.length:Int):=wrap_left h0 h1 ol
 by_cases c:left-(xs.length:Int)<0
 ·have hz:szv (tzExprS xs) left=-1:=szv_neg (by unfold tzExprS;omega)
  rw [hz];refine ⟨0,fun k _=>?_⟩;dsimp only
  unfold laws_szExprS.f
  rw [e,if_pos c]
 ·have hz:szv (tzExprS xs) left=szv (xs.map tzExpr).sum (left-(xs.length:Int)):=by unfold szv tzExprS;split<;>split<;>omega
  rw [hz];have key:=sz_loop xs z185 tzExpr (fun k l i=>laws_szExprS.l0 k xs l i) ?_ ?_ (left-(xs.length:Int)) (by omega) (by omega)
  ·obtain ⟨K,hK⟩:=key;refine ⟨K,fun k hk=>?_⟩;dsimp only
   unfold laws_szExprS.f
   rw [e,if_neg c];exact hK k hk
  ·intro i l r hi g0 g1 hneg hpos;have hrd:rd_T185 xs (i:Int)=xs.getD i z185:=by simp [rd_T185]
   have s:=sz_Expr (xs.getD i z185) (oe _ (getD_in _ hi)) l g0 g1;by_cases c2:l<(tzExpr (xs.getD i z185):Int)
   ·rw [hneg c2];rw [szv_neg c2] at s;refine ⟨0+1,fun k hk=>?_⟩;dsimp only
    obtain ⟨m,rfl⟩:∃m,k=m+1:=⟨k-1,by omega⟩;simp only [laws_szExprS.l0];rw [if_pos (by omega),if_pos (by omega),hrd,s];rfl
   ·have d2:(tzExpr (xs.getD i z185):Int)≤l:=by omega
    obtain ⟨K2,h2⟩:=hpos d2;rw [szv_pos d2] at s;refine ⟨K2+1,fun k hk=>?_⟩;dsimp only
    obtain ⟨m,rfl⟩:∃m,k=m+1:=⟨k-1,by omega⟩;simp only [laws_szExprS.l0];rw [if_pos (by omega),if_pos (by omega),hrd,s];simp only [Option.bind_some];rw [if_neg (by omega),wrap_succ hi ol];exact h2 m (by omega)
  ·intro l;refine ⟨1,fun k hk=>?_⟩;dsimp only
   obtain ⟨m,rfl⟩:∃m,k=m+1:=⟨k-1,by omega⟩;simp only [laws_szExprS.l0];rw [if_neg (by omega)]
theorem to_ExprS (xs:List S185) (hs:tzExprS xs≤1048576):Ev (fun k=>laws_toExprS.f k xs) (xs.map cvExpr):=by
 unfold tzExprS at hs
 have key:=to_loop xs z185 cvExpr (fun k out i=>laws_toExprS.l0 k xs out i) ?_ ?_ (List.replicate xs.length z161) List.length_replicate
 ·obtain ⟨K,hK⟩:=key;refine ⟨K,fun k hk=>?_⟩;dsimp only
  unfold laws_toExprS.f
  rw [if_pos (by omega),if_pos (by rw [Int.toNat_natCast];omega),Int.toNat_natCast];exact hK k hk
 ·intro i out r hi ho h;obtain ⟨K,hK⟩:=h;have hrd:rd_T185 xs (i:Int)=xs.getD i z185:=by simp [rd_T185]
  have h1:=to_Expr (xs.getD i z185);refine ⟨K+1,fun k hk=>?_⟩;dsimp only
  obtain ⟨m,rfl⟩:∃m,k=m+1:=⟨k-1,by omega⟩;simp only [laws_toExprS.l0];rw [if_pos (by omega),if_pos (by omega),hrd,h1];simp only [Option.bind_some];rw [if_pos (by omega),wrap_succ hi (by omega),Int.toNat_natCast];exact hK m (by omega)
 ·intro out ho;refine ⟨1,fun k hk=>?_⟩;dsimp only
  obtain ⟨m,rfl⟩:∃m,k=m+1:=⟨k-1,by omega⟩;simp only [laws_toExprS.l0];rw [if_neg (by omega)]
theorem eq_ExprS (xs:List S161) (hl:xs.length≤9223372036854775807):Ev (fun k=>laws_eqExprS.f k xs xs) true:=by
 have key:=eq_loop xs.length (fun k i=>laws_eqExprS.l0 k xs xs i) ?_ ?_
 ·obtain ⟨K,hK⟩:=key;refine ⟨K,fun k hk=>?_⟩;dsimp only
  unfold laws_eqExprS.f
  rw [if_pos (by trivial)];exact hK k hk
 ·intro i hi h;obtain ⟨K,hK⟩:=h;have hrd:rd_T161 xs (i:Int)=xs.getD i z161:=by simp [rd_T161]
  have h1:=eq_Expr (xs.getD i z161);refine ⟨K+1,fun k hk=>?_⟩;dsimp only
  obtain ⟨m,rfl⟩:∃m,k=m+1:=⟨k-1,by omega⟩;simp only [laws_eqExprS.l0];rw [if_pos (by omega),if_pos (by omega),if_pos (by omega),hrd,h1];simp only [Option.bind_some];rw [if_pos (by trivial),wrap_succ hi hl];exact hK m (by omega)
 ·refine ⟨1,fun k hk=>?_⟩;dsimp only
  obtain ⟨m,rfl⟩:∃m,k=m+1:=⟨k-1,by omega⟩;simp only [laws_eqExprS.l0];rw [if_neg (by omega)]
def cvAction (x:S187):S98:=⟨x.f0,x.f1,x.f2,x.f3⟩
def tzAction (x:S187):Nat:=x.f2.size+x.f3.length
def okAction (x:S187):Prop:=okInt x.f0∧okInt x.f1∧x.f2.size≤9223372036854775807∧okIntS x.f3
def tzActionS (xs:List S187):Nat:=xs.length+(xs.map tzAction).sum
def okActionS (xs:List S187):Prop:=xs.length≤9223372036854775807∧∀x,x∈xs→okAction x
theorem sz_Action (x:S187) (hok:okAction x) (left:Int) (h0:0≤left) (h1:left≤1048576):laws_szAction.f x.f0 x.f1 x.f2 x.f3 left=some (szv (tzAction x) left):=by
 obtain ⟨o0,o1,o2,o3⟩:=hok;have e2:wrap64 (left-(x.f2.size:Int))=left-(x.f2.size:Int):=wrap_left (by omega) (by omega) o2
 by_cases c2:left-(x.f2.size:Int)<0
 ·have hz:szv (tzAction x) left=-1:=szv_neg (by unfold tzAction;omega)
  rw [hz];unfold laws_szAction.f
  rw [e2,if_pos c2];try rfl
 ·skip;have s3:laws_szIntS.f x.f3 (left-(x.f2.size:Int))=some (szv (x.f3.length) (left-(x.f2.size:Int))):=sz_IntS x.f3 o3.1 (left-(x.f2.size:Int)) (by omega) (by omega)
  by_cases c3:(left-(x.f2.size:Int))<((x.f3.length:Nat):Int)
  ·have hz:szv (tzAction x) left=-1:=szv_neg (by unfold tzAction;omega)
   rw [hz];rw [szv_neg c3] at s3;unfold laws_szAction.f
   rw [e2,if_neg c2];rw [s3];rfl
  ·have d3:((x.f3.length:Nat):Int)≤(left-(x.f2.size:Int)):=by omega
   rw [szv_pos d3] at s3;have hz:szv (tzAction x) left=((left-(x.f2.size:Int))-((x.f3.length:Nat):Int)):=by rw [szv_pos (by unfold tzAction;omega)];unfold tzAction;omega
   rw [hz];unfold laws_szAction.f
   rw [e2,if_neg c2];rw [s3];simp only [Option.bind_some];rw [if_neg (by omega)];try rfl
theorem to_Action (x:S187) (hs:tzAction x≤1048576):Ev (fun k=>laws_toAction.f k x.f0 x.f1 x.f2 x.f3) (x.f0,x.f1,x.f2,x.f3):=by
 unfold tzAction at hs
 obtain ⟨K3,h3⟩:=to_IntS x.f3 (by omega);dsimp only at h3
 refine ⟨K3,fun k hk=>?_⟩;dsimp only
 unfold laws_toAction.f
 rw [h3 k (by omega)];simp only [Option.bind_some];try rfl
def leAction (x:S98):Prop:=x.f3.length≤9223372036854775807
theorem eq_Action (x:S98) (hl:leAction x):Ev (fun k=>laws_eqAction.f k x.f0 x.f1 x.f2 x.f3 x.f0 x.f1 x.f2 x.f3) true:=by
 have o3:=hl;unfold leAction at o3
 obtain ⟨K3,h3⟩:=eq_IntS x.f3 o3;dsimp only at h3
 refine ⟨K3,fun k hk=>?_⟩;dsimp only
 unfold laws_eqAction.f
 rw [if_pos (by trivial)];rw [if_pos (by trivial)];rw [if_pos (by trivial)];rw [h3 k (by omega)];simp only [Option.bind_some];rw [if_pos (by trivial)]
theorem sz_ActionS (xs:List S187) (hok:okActionS xs) (left:Int) (h0:0≤left) (h1:left≤1048576):Ev (fun k=>laws_szActionS.f k xs left) (szv (tzActionS xs) left):=by
 obtain ⟨ol,oe⟩:=hok;have e:wrap64 (left-(xs.length:Int))=left-(xs.length:Int):=wrap_left h0 h1 ol
 by_cases c:left-(xs.length:Int)<0
 ·have hz:szv (tzActionS xs) left=-1:=szv_neg (by unfold tzActionS;omega)
  rw [hz];refine ⟨0,fun k _=>?_⟩;dsimp only
  unfold laws_szActionS.f
  rw [e,if_pos c]
 ·have hz:szv (tzActionS xs) left=szv (xs.map tzAction).sum (left-(xs.length:Int)):=by unfold szv tzActionS;split<;>split<;>omega
  rw [hz];have key:=sz_loop xs z187 tzAction (fun k l i=>laws_szActionS.l0 k xs l i) ?_ ?_ (left-(xs.length:Int)) (by omega) (by omega)
  ·obtain ⟨K,hK⟩:=key;refine ⟨K,fun k hk=>?_⟩;dsimp only
   unfold laws_szActionS.f
   rw [e,if_neg c];exact hK k hk
  ·intro i l r hi g0 g1 hneg hpos;have hrd:rd_T187 xs (i:Int)=xs.getD i z187:=by simp [rd_T187]
   have s:=sz_Action (xs.getD i z187) (oe _ (getD_in _ hi)) l g0 g1;by_cases c2:l<(tzAction (xs.getD i z187):Int)
   ·rw [hneg c2];rw [szv_neg c2] at s;refine ⟨0+1,fun k hk=>?_⟩;dsimp only
    obtain ⟨m,rfl⟩:∃m,k=m+1:=⟨k-1,by omega⟩;simp only [laws_szActionS.l0];rw [if_pos (by omega),if_pos (by omega),hrd,s];rfl
   ·have d2:(tzAction (xs.getD i z187):Int)≤l:=by omega
    obtain ⟨K2,h2⟩:=hpos d2;rw [szv_pos d2] at s;refine ⟨K2+1,fun k hk=>?_⟩;dsimp only
    obtain ⟨m,rfl⟩:∃m,k=m+1:=⟨k-1,by omega⟩;simp only [laws_szActionS.l0];rw [if_pos (by omega),if_pos (by omega),hrd,s];simp only [Option.bind_some];rw [if_neg (by omega),wrap_succ hi ol];exact h2 m (by omega)
  ·intro l;refine ⟨1,fun k hk=>?_⟩;dsimp only
   obtain ⟨m,rfl⟩:∃m,k=m+1:=⟨k-1,by omega⟩;simp only [laws_szActionS.l0];rw [if_neg (by omega)]
theorem to_ActionS (xs:List S187) (hs:tzActionS xs≤1048576):Ev (fun k=>laws_toActionS.f k xs) (xs.map cvAction):=by
 unfold tzActionS at hs
 have key:=to_loop xs z187 cvAction (fun k out i=>laws_toActionS.l0 k xs out i) ?_ ?_ (List.replicate xs.length z98) List.length_replicate
 ·obtain ⟨K,hK⟩:=key;refine ⟨K,fun k hk=>?_⟩;dsimp only
  unfold laws_toActionS.f
  rw [if_pos (by omega),if_pos (by rw [Int.toNat_natCast];omega),Int.toNat_natCast];exact hK k hk
 ·intro i out r hi ho h;obtain ⟨K,hK⟩:=h;have hrd:rd_T187 xs (i:Int)=xs.getD i z187:=by simp [rd_T187]
  have hm:=sum_le_of_mem tzAction xs _ (getD_in z187 hi);obtain ⟨K1,h1⟩:=to_Action (xs.getD i z187) (by omega);dsimp only at h1
  refine ⟨K1+K+1,fun k hk=>?_⟩;dsimp only
  obtain ⟨m,rfl⟩:∃m,k=m+1:=⟨k-1,by omega⟩;simp only [laws_toActionS.l0];rw [if_pos (by omega),if_pos (by omega),hrd,h1 m (by omega)];simp only [Option.bind_some];rw [if_pos (by omega),wrap_succ hi (by omega),Int.toNat_natCast];exact hK m (by omega)
 ·intro out ho;refine ⟨1,fun k hk=>?_⟩;dsimp only
  obtain ⟨m,rfl⟩:∃m,k=m+1:=⟨k-1,by omega⟩;simp only [laws_toActionS.l0];rw [if_neg (by omega)]
def leActionS (xs:List S98):Prop:=xs.length≤9223372036854775807∧∀x,x∈xs→leAction x
theorem eq_ActionS (xs:List S98) (hl:leActionS xs):Ev (fun k=>laws_eqActionS.f k xs xs) true:=by
 obtain ⟨hl,he⟩:=hl;have key:=eq_loop xs.length (fun k i=>laws_eqActionS.l0 k xs xs i) ?_ ?_
 ·obtain ⟨K,hK⟩:=key;refine ⟨K,fun k hk=>?_⟩;dsimp only
  unfold laws_eqActionS.f
  rw [if_pos (by trivial)];exact hK k hk
 ·intro i hi h;obtain ⟨K,hK⟩:=h;have hrd:rd_T98 xs (i:Int)=xs.getD i z98:=by simp [rd_T98]
  obtain ⟨K1,h1⟩:=eq_Action (xs.getD i z98) (he _ (getD_in _ hi));dsimp only at h1
  refine ⟨K1+K+1,fun k hk=>?_⟩;dsimp only
  obtain ⟨m,rfl⟩:∃m,k=m+1:=⟨k-1,by omega⟩;simp only [laws_eqActionS.l0];rw [if_pos (by omega),if_pos (by omega),if_pos (by omega),hrd,h1 m (by omega)];simp only [Option.bind_some];rw [if_pos (by trivial),wrap_succ hi hl];exact hK m (by omega)
 ·refine ⟨1,fun k hk=>?_⟩;dsimp only
  obtain ⟨m,rfl⟩:∃m,k=m+1:=⟨k-1,by omega⟩;simp only [laws_eqActionS.l0];rw [if_neg (by omega)]
theorem le_cvAction (x:S187) (hs:tzAction x≤1048576):leAction (cvAction x):=by
 unfold tzAction at hs
 exact by show x.f3.length≤_;omega
theorem le_cvActionS (xs:List S187) (hs:tzActionS xs≤1048576):leActionS (xs.map cvAction):=by
 unfold tzActionS at hs
 refine ⟨by rw [List.length_map];omega,fun y hy=>?_⟩;obtain ⟨x,hx,rfl⟩:=List.mem_map.1 hy;have:=sum_le_of_mem tzAction xs x hx
 exact le_cvAction x (by omega)
def cvRule (x:S94):S39:=⟨x.f0,x.f1,(x.f2.map cvPattern),(x.f3.map cvExpr),(x.f4.map cvAction)⟩
def tzRule (x:S94):Nat:=x.f0.size+tzPatternS x.f2+tzExprS x.f3+tzActionS x.f4
def okRule (x:S94):Prop:=x.f0.size≤9223372036854775807∧okInt x.f1∧okPatternS x.f2∧okExprS x.f3∧okActionS x.f4
def tzRuleS (xs:List S94):Nat:=xs.length+(xs.map tzRule).sum
def okRuleS (xs:List S94):Prop:=xs.length≤9223372036854775807∧∀x,x∈xs→okRule x
theorem sz_Rule (x:S94) (hok:okRule x) (left:Int) (h0:0≤left) (h1:left≤1048576):Ev (fun k=>laws_szRule.f k x.f0 x.f1 x.f2 x.f3 x.f4 left) (szv (tzRule x) left):=by
 obtain ⟨o0,o1,o2,o3,o4⟩:=hok;have e0:wrap64 (left-(x.f0.size:Int))=left-(x.f0.size:Int):=wrap_left (by omega) (by omega) o0
 by_cases c0:left-(x.f0.size:Int)<0
 ·have hz:szv (tzRule x) left=-1:=szv_neg (by unfold tzRule;omega)
  rw [hz];refine ⟨0,fun k hk=>?_⟩;dsimp only
  unfold laws_szRule.f
  rw [e0,if_pos c0];try rfl
 ·skip;obtain ⟨K2,s2⟩:=sz_PatternS x.f2 o2 (left-(x.f0.size:Int)) (by omega) (by omega);by_cases c2:(left-(x.f0.size:Int))<((tzPatternS x.f2:Nat):Int)
  ·have hz:szv (tzRule x) left=-1:=szv_neg (by unfold tzRule;omega)
   rw [hz];simp only [szv_neg c2] at s2;refine ⟨K2,fun k hk=>?_⟩;dsimp only
   unfold laws_szRule.f
   rw [e0,if_neg c0];rw [s2 k (by omega)];rfl
  ·have d2:((tzPatternS x.f2:Nat):Int)≤(left-(x.f0.size:Int)):=by omega
   simp only [szv_pos d2] at s2;obtain ⟨K3,s3⟩:=sz_ExprS x.f3 o3 ((left-(x.f0.size:Int))-((tzPatternS x.f2:Nat):Int)) (by omega) (by omega);by_cases c3:((left-(x.f0.size:Int))-((tzPatternS x.f2:Nat):Int))<((tzExprS x.f3:Nat):Int)
   ·have hz:szv (tzRule x) left=-1:=szv_neg (by unfold tzRule;omega)
    rw [hz];simp only [szv_neg c3] at s3;refine ⟨K2+K3,fun k hk=>?_⟩;dsimp only
    unfold laws_szRule.f
    rw [e0,if_neg c0];rw [s2 k (by omega)];simp only [Option.bind_some];rw [if_neg (by omega)];rw [s3 k (by omega)];rfl
   ·have d3:((tzExprS x.f3:Nat):Int)≤((left-(x.f0.size:Int))-((tzPatternS x.f2:Nat):Int)):=by omega
    simp only [szv_pos d3] at s3;obtain ⟨K4,s4⟩:=sz_ActionS x.f4 o4 (((left-(x.f0.size:Int))-((tzPatternS x.f2:Nat):Int))-((tzExprS x.f3:Nat):Int)) (by omega) (by omega);by_cases c4:(((left-(x.f0.size:Int))-((tzPatternS x.f2:Nat):Int))-((tzExprS x.f3:Nat):Int))<((tzActionS x.f4:Nat):Int)
    ·have hz:szv (tzRule x) left=-1:=szv_neg (by unfold tzRule;omega)
     rw [hz];simp only [szv_neg c4] at s4;refine ⟨K2+K3+K4,fun k hk=>?_⟩;dsimp only
     unfold laws_szRule.f
     rw [e0,if_neg c0];rw [s2 k (by omega)];simp only [Option.bind_some];rw [if_neg (by omega)];rw [s3 k (by omega)];simp only [Option.bind_some];rw [if_neg (by omega)];rw [s4 k (by omega)];rfl
    ·have d4:((tzActionS x.f4:Nat):Int)≤(((left-(x.f0.size:Int))-((tzPatternS x.f2:Nat):Int))-((tzExprS x.f3:Nat):Int)):=by omega
     simp only [szv_pos d4] at s4;have hz:szv (tzRule x) left=((((left-(x.f0.size:Int))-((tzPatternS x.f2:Nat):Int))-((tzExprS x.f3:Nat):Int))-((tzActionS x.f4:Nat):Int)):=by rw [szv_pos (by unfold tzRule;omega)];unfold tzRule;omega
     rw [hz];refine ⟨K2+K3+K4,fun k hk=>?_⟩;dsimp only
     unfold laws_szRule.f
     rw [e0,if_neg c0];rw [s2 k (by omega)];simp only [Option.bind_some];rw [if_neg (by omega)];rw [s3 k (by omega)];simp only [Option.bind_some];rw [if_neg (by omega)];rw [s4 k (by omega)];simp only [Option.bind_some];rw [if_neg (by omega)];try rfl
theorem to_Rule (x:S94) (hs:tzRule x≤1048576):Ev (fun k=>laws_toRule.f k x.f0 x.f1 x.f2 x.f3 x.f4) (x.f0,x.f1,(x.f2.map cvPattern),(x.f3.map cvExpr),(x.f4.map cvAction)):=by
 unfold tzRule at hs
 obtain ⟨K2,h2⟩:=to_PatternS x.f2 (by omega);dsimp only at h2
 obtain ⟨K3,h3⟩:=to_ExprS x.f3 (by omega);dsimp only at h3
 obtain ⟨K4,h4⟩:=to_ActionS x.f4 (by omega);dsimp only at h4
 refine ⟨K2+K3+K4,fun k hk=>?_⟩;dsimp only
 unfold laws_toRule.f
 rw [h2 k (by omega)];simp only [Option.bind_some];rw [h3 k (by omega)];simp only [Option.bind_some];rw [h4 k (by omega)];simp only [Option.bind_some];try rfl
def leRule (x:S39):Prop:=lePatternS x.f2∧x.f3.length≤9223372036854775807∧leActionS x.f4
theorem eq_Rule (x:S39) (hl:leRule x):Ev (fun k=>laws_eqRule.f k x.f0 x.f1 x.f2 x.f3 x.f4 x.f0 x.f1 x.f2 x.f3 x.f4) true:=by
 obtain ⟨o2,o3,o4⟩:=hl;obtain ⟨K2,h2⟩:=eq_PatternS x.f2 o2;dsimp only at h2
 obtain ⟨K3,h3⟩:=eq_ExprS x.f3 o3;dsimp only at h3
 obtain ⟨K4,h4⟩:=eq_ActionS x.f4 o4;dsimp only at h4
 refine ⟨K2+K3+K4,fun k hk=>?_⟩;dsimp only
 unfold laws_eqRule.f
 rw [if_pos (by trivial)];rw [if_pos (by trivial)];rw [h2 k (by omega)];simp only [Option.bind_some];rw [if_pos (by trivial)];rw [h3 k (by omega)];simp only [Option.bind_some];rw [if_pos (by trivial)];rw [h4 k (by omega)];simp only [Option.bind_some];rw [if_pos (by trivial)]
theorem sz_RuleS (xs:List S94) (hok:okRuleS xs) (left:Int) (h0:0≤left) (h1:left≤1048576):Ev (fun k=>laws_szRuleS.f k xs left) (szv (tzRuleS xs) left):=by
 obtain ⟨ol,oe⟩:=hok;have e:wrap64 (left-(xs.length:Int))=left-(xs.length:Int):=wrap_left h0 h1 ol
 by_cases c:left-(xs.length:Int)<0
 ·have hz:szv (tzRuleS xs) left=-1:=szv_neg (by unfold tzRuleS;omega)
  rw [hz];refine ⟨0,fun k _=>?_⟩;dsimp only
  unfold laws_szRuleS.f
  rw [e,if_pos c]
 ·have hz:szv (tzRuleS xs) left=szv (xs.map tzRule).sum (left-(xs.length:Int)):=by unfold szv tzRuleS;split<;>split<;>omega
  rw [hz];have key:=sz_loop xs z94 tzRule (fun k l i=>laws_szRuleS.l0 k xs l i) ?_ ?_ (left-(xs.length:Int)) (by omega) (by omega)
  ·obtain ⟨K,hK⟩:=key;refine ⟨K,fun k hk=>?_⟩;dsimp only
   unfold laws_szRuleS.f
   rw [e,if_neg c];exact hK k hk
  ·intro i l r hi g0 g1 hneg hpos;have hrd:rd_T94 xs (i:Int)=xs.getD i z94:=by simp [rd_T94]
   obtain ⟨K1,s⟩:=sz_Rule (xs.getD i z94) (oe _ (getD_in _ hi)) l g0 g1;by_cases c2:l<(tzRule (xs.getD i z94):Int)
   ·rw [hneg c2];simp only [szv_neg c2] at s;refine ⟨K1+1,fun k hk=>?_⟩;dsimp only
    obtain ⟨m,rfl⟩:∃m,k=m+1:=⟨k-1,by omega⟩;simp only [laws_szRuleS.l0];rw [if_pos (by omega),if_pos (by omega),hrd,s m (by omega)];rfl
   ·have d2:(tzRule (xs.getD i z94):Int)≤l:=by omega
    obtain ⟨K2,h2⟩:=hpos d2;simp only [szv_pos d2] at s;refine ⟨K1+K2+1,fun k hk=>?_⟩;dsimp only
    obtain ⟨m,rfl⟩:∃m,k=m+1:=⟨k-1,by omega⟩;simp only [laws_szRuleS.l0];rw [if_pos (by omega),if_pos (by omega),hrd,s m (by omega)];simp only [Option.bind_some];rw [if_neg (by omega),wrap_succ hi ol];exact h2 m (by omega)
  ·intro l;refine ⟨1,fun k hk=>?_⟩;dsimp only
   obtain ⟨m,rfl⟩:∃m,k=m+1:=⟨k-1,by omega⟩;simp only [laws_szRuleS.l0];rw [if_neg (by omega)]
theorem to_RuleS (xs:List S94) (hs:tzRuleS xs≤1048576):Ev (fun k=>laws_toRuleS.f k xs) (xs.map cvRule):=by
 unfold tzRuleS at hs
 have key:=to_loop xs z94 cvRule (fun k out i=>laws_toRuleS.l0 k xs out i) ?_ ?_ (List.replicate xs.length z39) List.length_replicate
 ·obtain ⟨K,hK⟩:=key;refine ⟨K,fun k hk=>?_⟩;dsimp only
  unfold laws_toRuleS.f
  rw [if_pos (by omega),if_pos (by rw [Int.toNat_natCast];omega),Int.toNat_natCast];exact hK k hk
 ·intro i out r hi ho h;obtain ⟨K,hK⟩:=h;have hrd:rd_T94 xs (i:Int)=xs.getD i z94:=by simp [rd_T94]
  have hm:=sum_le_of_mem tzRule xs _ (getD_in z94 hi);obtain ⟨K1,h1⟩:=to_Rule (xs.getD i z94) (by omega);dsimp only at h1
  refine ⟨K1+K+1,fun k hk=>?_⟩;dsimp only
  obtain ⟨m,rfl⟩:∃m,k=m+1:=⟨k-1,by omega⟩;simp only [laws_toRuleS.l0];rw [if_pos (by omega),if_pos (by omega),hrd,h1 m (by omega)];simp only [Option.bind_some];rw [if_pos (by omega),wrap_succ hi (by omega),Int.toNat_natCast];exact hK m (by omega)
 ·intro out ho;refine ⟨1,fun k hk=>?_⟩;dsimp only
  obtain ⟨m,rfl⟩:∃m,k=m+1:=⟨k-1,by omega⟩;simp only [laws_toRuleS.l0];rw [if_neg (by omega)]
def leRuleS (xs:List S39):Prop:=xs.length≤9223372036854775807∧∀x,x∈xs→leRule x
theorem eq_RuleS (xs:List S39) (hl:leRuleS xs):Ev (fun k=>laws_eqRuleS.f k xs xs) true:=by
 obtain ⟨hl,he⟩:=hl;have key:=eq_loop xs.length (fun k i=>laws_eqRuleS.l0 k xs xs i) ?_ ?_
 ·obtain ⟨K,hK⟩:=key;refine ⟨K,fun k hk=>?_⟩;dsimp only
  unfold laws_eqRuleS.f
  rw [if_pos (by trivial)];exact hK k hk
 ·intro i hi h;obtain ⟨K,hK⟩:=h;have hrd:rd_T39 xs (i:Int)=xs.getD i z39:=by simp [rd_T39]
  obtain ⟨K1,h1⟩:=eq_Rule (xs.getD i z39) (he _ (getD_in _ hi));dsimp only at h1
  refine ⟨K1+K+1,fun k hk=>?_⟩;dsimp only
  obtain ⟨m,rfl⟩:∃m,k=m+1:=⟨k-1,by omega⟩;simp only [laws_eqRuleS.l0];rw [if_pos (by omega),if_pos (by omega),if_pos (by omega),hrd,h1 m (by omega)];simp only [Option.bind_some];rw [if_pos (by trivial),wrap_succ hi hl];exact hK m (by omega)
 ·refine ⟨1,fun k hk=>?_⟩;dsimp only
  obtain ⟨m,rfl⟩:∃m,k=m+1:=⟨k-1,by omega⟩;simp only [laws_eqRuleS.l0];rw [if_neg (by omega)]
theorem le_cvRule (x:S94) (hs:tzRule x≤1048576):leRule (cvRule x):=by
 unfold tzRule at hs
 exact ⟨le_cvPatternS x.f2 (by omega),by show (x.f3.map cvExpr).length≤_;rw [List.length_map];unfold tzExprS at hs;omega,le_cvActionS x.f4 (by omega)⟩
theorem le_cvRuleS (xs:List S94) (hs:tzRuleS xs≤1048576):leRuleS (xs.map cvRule):=by
 unfold tzRuleS at hs
 refine ⟨by rw [List.length_map];omega,fun y hy=>?_⟩;obtain ⟨x,hx,rfl⟩:=List.mem_map.1 hy;have:=sum_le_of_mem tzRule xs x hx
 exact le_cvRule x (by omega)
theorem ruleSz_cv (R:List S94) (h:okRuleS R) (hs:tzRuleS R≤1048576):∀q,q∈R.map cvRule→RuleSz q:=by
 intro q hq;obtain ⟨x,hx,rfl⟩:=List.mem_map.1 hq;have h1:=h.2 x hx;have h2:=sum_le_of_mem tzRule R x hx;unfold tzRuleS at hs
 have ht:tzRule x≤1048576:=by omega
 unfold tzRule at ht
 refine ⟨?_,fun e he=>?_⟩
 ·show x.f0.size≤maxLen;unfold maxLen;omega
 ·have he2:e∈x.f3.map cvExpr:=he
  obtain ⟨z,hz,rfl⟩:=List.mem_map.1 he2;have h3:=sum_le_of_mem tzExpr x.f3 z hz;have h4:tzExprS x.f3≤1048576:=by omega
  unfold tzExprS at h4
  have h5:tzExpr z≤1048576:=by omega
  unfold tzExpr at h5
  obtain ⟨_,_,_,oe,_⟩:=h1;have h6:=oe.2 z hz;obtain ⟨_,o1,_⟩:=h6;refine ⟨o1,?_⟩;show z.f2.size≤maxLen;unfold maxLen;omega
theorem cn_le {α β : Type} (c : β→Nat) (t : α→Nat) (f : α→β) (K:Nat) (h:∀x,c (f x)≤K*(t x+1)):∀xs:List α,cnS c (xs.map f)≤K*(xs.length+(xs.map t).sum)
 | []=>by simp [cnS]
 | x::xs=>by
  have ih:=cn_le c t f K h xs;have hx:=h x;unfold cnS at ih ⊢
  rw [List.map_cons,List.map_cons,List.sum_cons,List.map_cons,List.sum_cons,List.length_cons]
  have e:K*(xs.length+1+(t x+(xs.map t).sum))=K*(t x+1)+K*(xs.length+(xs.map t).sum):=by
   rw [←Nat.mul_add];congr 1;omega
  omega
theorem cn_ints (xs:List Int):cnS c_int xs=xs.length:=by
 induction xs with
 | nil=>rfl
 | cons x xs ih=>
  unfold cnS at ih ⊢
  rw [List.map_cons,List.sum_cons,ih,List.length_cons];unfold c_int;omega
theorem cn_Term (xs:List S253):cnS c_Term (xs.map cvTerm)≤16*tzTermS xs:=by
 unfold tzTermS
 refine cn_le c_Term tzTerm cvTerm 16 (fun x=>?_) xs;unfold c_Term;omega
theorem cn_Pattern (xs:List S181):cnS c_Pattern (xs.map cvPattern)≤16*tzPatternS xs:=by
 unfold tzPatternS
 refine cn_le c_Pattern tzPattern cvPattern 16 (fun x=>?_) xs;have h:(cvPattern x).f2=x.f2.map cvTerm:=rfl
 have:=cn_Term x.f2
 unfold c_Pattern tzPattern
 rw [h];omega
theorem cn_Expr (xs:List S185):cnS c_Expr (xs.map cvExpr)≤16*tzExprS xs:=by
 unfold tzExprS
 refine cn_le c_Expr tzExpr cvExpr 16 (fun x=>?_) xs;unfold c_Expr;omega
theorem cn_Action (xs:List S187):cnS c_Action (xs.map cvAction)≤16*tzActionS xs:=by
 unfold tzActionS
 refine cn_le c_Action tzAction cvAction 16 (fun x=>?_) xs;have h:(cvAction x).f3=x.f3:=rfl
 have:=cn_ints x.f3
 unfold c_Action tzAction
 rw [h];omega
theorem cn_Rule (xs:List S94):cnS c_Rule (xs.map cvRule)≤16*tzRuleS xs:=by
 unfold tzRuleS
 refine cn_le c_Rule tzRule cvRule 16 (fun x=>?_) xs;have h2:(cvRule x).f2=x.f2.map cvPattern:=rfl
 have h3:(cvRule x).f3=x.f3.map cvExpr:=rfl
 have h4:(cvRule x).f4=x.f4.map cvAction:=rfl
 have:=cn_Pattern x.f2
 have:=cn_Expr x.f3
 have:=cn_Action x.f4
 unfold c_Rule tzRule
 rw [h2,h3,h4];omega
theorem eqBytes (xs:List Int) (hl:xs.length≤1152921504606846976):Ev (fun k=>laws_eqByteS.f k xs xs) true:=by
 refine Ev.congr (fun k=>by unfold laws_eqByteS.f;exact rfl) (Ev.ifT (by trivial) ?_)
 have key:∀i,i≤xs.length→Ev (fun k=>laws_eqByteS.l0 k xs xs (i:Int)) true:=by
  refine up_ind ?_ ?_
  ·refine Ev.step (fun k=>by simp only [laws_eqByteS.l0];exact rfl) ?_;exact Ev.ifF (by omega) (Ev.now _)
  ·intro i hi ih;refine Ev.step (fun k=>by simp only [laws_eqByteS.l0];exact rfl) ?_;refine Ev.ifT (by omega) (Ev.ifT (by omega) (Ev.ifT (by omega) (Ev.ifT (by trivial) ?_)));rw [wrap_succ hi (by omega)];exact ih
 exact key 0 (Nat.zero_le _)
theorem markL_at (a:Int) (n i:Nat) (h:i<n):rd (markL a n) (i:Int)=(a+(i:Int)) % 256:=by
 simp [rd,markL,h]
theorem heldBytes (a:Int) (n:Nat) (h0:0≤a) (hn:a+n≤4611686018427387904):Ev (fun k=>laws_heldByteS.f k (markL a n) a) (a+(n:Int)):=by
 refine Ev.congr (fun k=>by unfold laws_heldByteS.f;exact rfl) ?_
 have key:∀i,i≤n→Ev (fun k=>laws_heldByteS.l0 k (markL a n) (a+(i:Int)) (i:Int)) (a+(n:Int)):=by
  have hl:=markL_length a n;refine up_ind ?_ ?_
  ·refine Ev.step (fun k=>by simp only [laws_heldByteS.l0];exact rfl) ?_;exact Ev.ifF (by omega) (Ev.now _)
  ·intro i hi ih;refine Ev.step (fun k=>by simp only [laws_heldByteS.l0];exact rfl) ?_;refine Ev.ifT (by omega) (Ev.ifT (by omega) (Ev.ifT (markL_at a n i hi) ?_));rw [wrap_succ hi (by omega),show wrap64 (a+(i:Int)+1)=a+((i+1:Nat):Int) by unfold wrap64;omega];exact ih
 have:=key 0 (Nat.zero_le _)
 rw [show a+((0:Nat):Int)=a by omega] at this;exact this
theorem rok_cv {x:S94} (h:okRule x) (hs:ShapeOK (cvRule x).f0 (cvRule x).f2 (cvRule x).f3 (cvRule x).f4):ROk (cvRule x):=by
 obtain ⟨_,o1,o2,o3,o4⟩:=h;refine ⟨hs,o1,?_,?_,?_,?_⟩
 ·intro p hp t ht;obtain ⟨y,hy,rfl⟩:=List.mem_map.1 (show p∈x.f2.map cvPattern from hp);obtain ⟨z,hz,rfl⟩:=List.mem_map.1 (show t∈y.f2.map cvTerm from ht);obtain ⟨_,oT⟩:=o2.2 y hy;obtain ⟨_,_,_,oV⟩:=oT.2 z hz;obtain ⟨_,oN,_⟩:=oV;exact oN
 ·intro e he;obtain ⟨y,hy,rfl⟩:=List.mem_map.1 (show e∈x.f3.map cvExpr from he);obtain ⟨_,ob,_⟩:=o3.2 y hy;exact ob
 ·intro e he;obtain ⟨y,hy,rfl⟩:=List.mem_map.1 (show e∈x.f3.map cvExpr from he);obtain ⟨_,_,_,oV,_⟩:=o3.2 y hy;obtain ⟨_,oN,_⟩:=oV;exact oN
 ·intro a ha;obtain ⟨y,hy,rfl⟩:=List.mem_map.1 (show a∈x.f4.map cvAction from ha);obtain ⟨_,ok,_⟩:=o4.2 y hy;exact ok
theorem print_both (l:List S94) (hl:okRuleS l) (hs:tzRuleS l≤1048576):∃t:ByteArray,Ev (fun k=>spec_PrintRules.f k (l.map cvRule)) t∧Ev (fun k=>impl_PrintRules.f k (l.map cvRule)) t∧t.size≤25600160000:=by
 obtain ⟨cb,hc1,hc2,hc3⟩:=checked_both (l.map cvRule) (ruleSz_cv l hl hs);cases cb with
 | false=>
  refine ⟨⟨#[]⟩,?_,?_,Nat.zero_le _⟩
  ·refine Ev.congr (fun k=>by unfold spec_PrintRules.f;exact rfl) (Ev.bind hc1 (Ev.ifF Bool.false_ne_true (Ev.now _)))
  ·refine Ev.congr (fun k=>by unfold impl_PrintRules.f;exact rfl) (Ev.bind hc2 (Ev.ifF Bool.false_ne_true (Ev.now _)))
 | true=>
  obtain ⟨h16,hR⟩:=hc3 rfl
  have hq:∀q,q∈l.map cvRule→ROk q:=by
   intro q hq;obtain ⟨j,hj,e⟩:=List.getElem_of_mem hq;have hr:=(hR j hj).1;rw [getD_lt _ hj,e] at hr;obtain ⟨x,hx,rfl⟩:=List.mem_map.1 hq;exact rok_cv (hl.2 x hx) hr.1
  obtain ⟨t,h1,h2,h3⟩:=rules_both (l.map cvRule) h16 hq;refine ⟨t,?_,?_,h3⟩
  ·exact Ev.congr (fun k=>by unfold spec_PrintRules.f;exact rfl) (Ev.bind hc1 (Ev.ifT rfl h2))
  ·exact Ev.congr (fun k=>by unfold impl_PrintRules.f;exact rfl) (Ev.bind hc2 (Ev.ifT rfl (Ev.bind h1 (Ev.ifT (show t.size≤140737488355328∧(l.map cvRule).length≤4611686018427387904 from ⟨by omega,by omega⟩) (Ev.now _)))))
def FnExactPrintRules.Pure:Prop:=∀(l:List S94),okRuleS l→∃k,laws_FnExactPrintRules.f k l=some true
theorem FnExactPrintRules:FnExactPrintRules.Pure:=by
 intro l hl
 have suf:(∃K,∀k,K≤k→FnExactPrintRules.Facts k l)→∃k,laws_FnExactPrintRules.f k l=some true:=by
  rintro ⟨K,hK⟩;exact ⟨K,by unfold laws_FnExactPrintRules.f;rw [if_pos (hK K (Nat.le_refl _))]⟩
 apply suf
 clear suf;obtain ⟨K1,h1⟩:=sz_RuleS l hl 1048576 (by omega) (by omega);by_cases c1:(1048576:Int)<tzRuleS l
 ·rw [szv_neg c1] at h1;exact ⟨K1,fun k hk=>⟨-1,h1 k hk,.inl (by omega)⟩⟩
 have d1:(tzRuleS l:Int)≤1048576:=by omega
 rw [szv_pos d1] at h1;obtain ⟨K3,h3⟩:=to_RuleS l (by omega);obtain ⟨t,⟨K5,h5⟩,⟨K6,h6⟩,ht⟩:=print_both l hl (by omega);have hn:=numsB_length t;obtain ⟨K7,h7⟩:=eqBytes (numsB t) (by omega);obtain ⟨K8,h8⟩:=eq_RuleS (l.map cvRule) (le_cvRuleS l (by omega));have q1:=cn_Rule l;obtain ⟨K9,h9⟩:=heldBytes 1 (numsB t).length (by omega) (by omega);exact ⟨K1+K3+K5+K6+K7+K8+K9,fun k hk=>⟨_,h1 k (by omega),.inr ⟨by omega,l.map cvRule,t,h3 k (by omega),h5 k (by omega),h6 k (by omega),h7 k (by omega),h8 k (by omega),by omega,by omega,h9 k (by omega)⟩⟩⟩
end Go.Proofs.YtahambloheoebaaGreatDoor.Pure
namespace Go.Proofs.YtahambloheoebaaGreatDoorX
open Go.RowKit Go.Proofs.YtahambloheoebaaGreatDoorW.PrintWords
set_option linter.unusedVariables false
set_option linter.unusedSimpArgs false
def Rdb {α : Type} (P:Program) (W:World) (T:TypeId) (d:Kd α) (ok : α→Prop):Prop:=
 ∀(H:Type) (enc:TypeId×Value→H) (sp:Nat→Bool) (fuel:Nat) (cs:List Value) (r:DataW H×List MemPlace),DataW.trod enc P W 0 sp true fuel T cs=some r→∃x,d.K W x cs∧ok x
section
variable {P:Program} {W:World} {T:TypeId}
theorem rdb_bool (hu:P.underlying T=some .bool):Rdb P W T Kd.bool (fun _=>True):=by
 intro H enc sp fuel cs r h;obtain ⟨n,rfl,_⟩:=DataW.trod_bool hu h;exact ⟨n,rfl,trivial⟩
theorem rdb_string (hu:P.underlying T=some .string):Rdb P W T Kd.string (fun s=>s.size≤9223372036854775807):=by
 intro H enc sp fuel cs r h;obtain ⟨s,rfl,_,hs⟩:=DataW.trod_string hu h;exact ⟨s,rfl,by simpa [maxLen] using hs⟩
theorem list_choice {α : Type} (Q:Nat→α→Prop):∀n,(∀i,i<n→∃x,Q i x)→∃xs:List α,xs.length=n∧∀i x,xs[i]?=some x→Q i x
 | 0,_=>⟨[],rfl,fun i x h=>by simp at h⟩
 | n+1,h=>by
  obtain ⟨xs,hl,hx⟩:=list_choice Q n (fun i hi=>h i (by omega));obtain ⟨y,hy⟩:=h n (by omega);refine ⟨xs++[y],by simp [hl],fun i x hi=>?_⟩;rcases Nat.lt_or_ge i xs.length with c|c
  ·rw [List.getElem?_append_left c] at hi;exact hx i x hi
  ·rw [List.getElem?_append_right c] at hi
   have e:i-xs.length=0:=by
    rcases Nat.eq_zero_or_pos (i-xs.length) with e|e
    ·exact e
    ·rw [List.getElem?_eq_none (by simp;omega)] at hi;cases hi
   rw [e] at hi;have:y=x:=by simpa using hi
   rw [←this,show i=n by omega];exact hy
theorem add_plus (a:Addr) (m n:Nat):(a.add m).add n=a.add (m+n):=by
 unfold Addr.add
 by_cases h1:m=0
 ·subst h1;simp
 ·by_cases h2:n=0
  ·subst h2;simp
  ·simp [h1,h2];omega
theorem rdb_slice {α : Type} {d:Kd α} {ok : α→Prop} {e:TypeId} (hu:P.underlying T=some (.slice e)) (hc:P.cellsOf e=d.sz) (he:Rdb P W e d ok):
  Rdb P W T (Kd.slice e d) (fun xs=>xs.length≤9223372036854775807∧∀x,x∈xs→ok x):=by
 intro H enc sp fuel cs r h;rcases DataW.trod_slice hu h with ⟨rfl,_⟩|⟨a,len,cap,elems,rest,n,_,rfl,_,_,hl,hcap,hel,hrd,_,_⟩
 ·exact ⟨[],⟨none,0,rfl,Nat.le_refl _,rfl,by simp,fun h=>absurd h (by simp)⟩,by simp,fun x hx=>absurd hx (by simp)⟩
 ·have hex:∀i,i<len→∃x,∃c,c.length=d.sz∧d.K W x c∧(∀j u,c[j]?=some u→W.cell? (a.add (i * d.sz+j))=some u)∧ok x:=by
   intro i hi;have h1:=hrd i hi;rw [List.getElem?_eq_getElem (by omega)] at h1;obtain ⟨c,h2,h3⟩:=Option.bind_eq_some_iff.1 h1;obtain ⟨x,hx,hok⟩:=he H enc sp n c _ h3;obtain ⟨_,h5,h6⟩:=World.cells?_some h2;refine ⟨x,c,d.K_len hx,hx,fun j u hj=>?_,hok⟩
   have hlt:j<P.cellsOf e:=by
    have:=(List.getElem?_eq_some_iff.1 hj).1
    omega
   have h7:=h6 j hlt;rw [hj,hc,add_plus] at h7;exact h7
  obtain ⟨xs,hxl,hxs⟩:=list_choice _ len hex;refine ⟨xs,⟨some a,cap,by rw [hxl],by omega,rfl,by simp [maxLen] at hcap;omega,fun _=>⟨a,rfl,fun j p hj=>?_⟩⟩,by simp [maxLen] at hcap;omega,fun x hx=>?_⟩
  ·obtain ⟨c,h1,h2,h3,_⟩:=hxs j p hj;exact ⟨c,h1,h2,h3⟩
  ·obtain ⟨i,hi,e⟩:=List.getElem_of_mem hx;obtain ⟨c,_,_,_,h4⟩:=hxs i x (by rw [List.getElem?_eq_getElem hi,e]);exact h4
theorem rdb_i64 (hu:P.underlying T=some (.int .i64)):Rdb P W T (Kd.int .i64) okInt:=by
 intro H enc sp fuel cs r h;obtain ⟨n,rfl,_,hw⟩:=DataW.trod_int hu h;refine ⟨n,rfl,?_⟩;simp only [Lit.wf,Bool.and_eq_true,decide_eq_true_eq] at hw;exact hw
theorem rdb_u8 (hu:P.underlying T=some (.int .u8)):Rdb P W T (Kd.int .u8) okByte:=by
 intro H enc sp fuel cs r h;obtain ⟨n,rfl,_,hw⟩:=DataW.trod_int hu h;refine ⟨n,rfl,?_⟩;simp only [Lit.wf,Bool.and_eq_true,decide_eq_true_eq] at hw;exact hw
theorem len_s {α : Type} {cs:List α} {n:Nat} (h:cs.length=n+1):∃a r,cs=a::r∧r.length=n:=by
 cases cs with
 | nil=>cases h
 | cons a r=>exact ⟨a,r,rfl,by simpa using h⟩
theorem len_z {α : Type} {cs:List α} (h:cs.length=0):cs=[]:=List.length_eq_zero_iff.1 h
end
end Go.Proofs.YtahambloheoebaaGreatDoorX
