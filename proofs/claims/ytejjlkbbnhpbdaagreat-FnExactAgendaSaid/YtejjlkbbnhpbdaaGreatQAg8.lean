/- The row of the law FnExactAgenda: for every input the call returns true, and each argument reads behind it as it read before; no condition of ours. -/
import Derived.OneCell
import Derived.IntWalk
import Derived.Deep.LoopGhost
import Derived.ChangeArms
import Derived.DataReads
import Derived.WideShapes
import Derived.Test.YtejjlkbbnhpbdaaGreatQAg7
namespace Go.Proofs.YtejjlkbbnhpbdaaGreat.Pure
open Go.RowKit Go.Proofs.YtejjlkbbnhpbdaaGreat.P Go.Proofs.YtejjlkbbnhpbdaaGreatW.PrintWords Go.Proofs.YtejjlkbbnhpbdaaGreatW.PrintLast Go.Proofs.YtejjlkbbnhpbdaaGreatX
set_option linter.unusedVariables false
set_option linter.unusedSimpArgs false
theorem text20 (a:Int) (h0:0≤a) (h1:a≤9223372036854775807):laws_markText.f 20 a=some (mtxt a):=by
 have:∃r,laws_markText.f 20 a=some r:=by
  unfold laws_markText.f
  split
  ·exact ⟨_,rfl⟩
  ·exact markText_loop 19 a _ h0 h1 (by omega) (by decide)
 obtain ⟨r,hr⟩:=this;have e:mtxt a=r:=by unfold mtxt;rw [hr];rfl
 rw [e];exact hr
def NoSl (v:Value):Prop:=∀A n c,v≠.slice A n c
def Sc (S:Nat→Prop) (w w':World):Prop:=(∀p v,w.cell? p=some v→∃v',w'.cell? p=some v'∧(NoSl v∨v'=v))∧(∀p v,w.cell? p=some v→w'.frozen? p=w.frozen? p)∧Kept w w' S
def ScP (S:Nat→Prop) (w:World) (p:Addr):Prop:=S p.block∧∃v,w.cell? p=some v∧NoSl v
theorem Sc.refl (S:Nat→Prop) (w:World):Sc S w w:=⟨fun p v h=>⟨v,h,.inr rfl⟩,fun _ _ _=>rfl,Kept.refl _ _⟩
theorem Sc.below {S:Nat→Prop} {w w1 w2:World} (h:Sc S w w1) (hb:Below w1.heap.size w1 w2):Sc S w w2:=by
 refine ⟨fun p v hp=>?_,fun p v hp=>?_,Kept.below h.2.2 hb⟩
 ·obtain ⟨v',h1,h2⟩:=h.1 p v hp;exact ⟨v',(hb.cell (World.block_lt_of_cell? w1 p h1)).trans h1,h2⟩
 ·obtain ⟨v',h1,_⟩:=h.1 p v hp;exact (hb.frozen (World.block_lt_of_cell? w1 p h1)).trans (h.2.1 p v hp)
theorem Sc.set {S:Nat→Prop} {w w1:World} {p:Addr} (h:Sc S w w1) (hp:ScP S w p) (u:Value):Sc S w (w1.setCell p u):=by
 obtain ⟨hs,v0,hv0,hn⟩:=hp;refine ⟨fun q v hq=>?_,fun q v hq=>?_,Kept.setCell h.2.2 (.inl hs) u⟩
 ·obtain ⟨v',h1,h2⟩:=h.1 q v hq;by_cases e:p=q
  ·subst e;rw [hv0] at hq;have hq:=Option.some.inj hq;subst hq;exact ⟨u,World.cell?_setCell_same w1 p u h1,.inl hn⟩
  ·exact ⟨v',(World.cell?_setCell_other w1 p q u e).trans h1,h2⟩
 ·rw [World.frozen?_setCell];exact h.2.1 q v hq
theorem Sc.at_ {S:Nat→Prop} {w w1:World} {p:Addr} {v:Value} (h:Sc S w w1) (hp:w.cell? p=some v):∃u,w1.cell? p=some u:=by
 obtain ⟨u,h1,_⟩:=h.1 p v hp;exact ⟨u,h1⟩
theorem Sc.fz {S:Nat→Prop} {w w1:World} {p:Addr} {v:Value} (h:Sc S w w1) (hp:w.cell? p=some v) (hf:w.frozen? p=false):w1.frozen? p=false:=(h.2.1 p v hp).trans hf
theorem Sc.sl {S:Nat→Prop} {w w1:World} {p:Addr} {A:Option Addr} {n c:Nat} (h:Sc S w w1) (hp:w.cell? p=some (.slice A n c)):w1.cell? p=some (.slice A n c):=by
 obtain ⟨u,h1,h2⟩:=h.1 p _ hp;rcases h2 with h2|h2
 ·exact absurd rfl (h2 A n c)
 ·rw [h2] at h1;exact h1
section
variable {S:Nat→Prop} {w x y:World}
theorem msc_ (h:Aside0 (Sc S w x)) (f:Sc S w x→Sc S w y:=by intro h;repeat (first|exact h|refine Sc.set ?_ (Aside0.out (by assumption)) _)):Sc S w y:=f h.out
end
def cnS {α : Type} (c : α→Nat) (l:List α):Nat:=(l.map c).sum
theorem cnS_take {α : Type} (c : α→Nat) (z : α) (l:List α) (i:Nat) (h:i<l.length):cnS c (l.take (i+1))=cnS c (l.take i)+c (l.getD i z):=by
 unfold cnS
 rw [List.take_succ_eq_append_getElem h,List.map_append,List.sum_append];simp [List.getD_eq_getElem?_getD,h]
theorem cnS_le {α : Type} (c : α→Nat) (l:List α) (i:Nat):cnS c (l.take i)≤cnS c l:=by
 have:=List.take_append_drop i l
 have h:cnS c l=cnS c (l.take i)+cnS c (l.drop i):=by
  unfold cnS;rw [←List.sum_append,←List.map_append,this]
 omega
def c_int (x:Int):Nat:=1
set_option maxHeartbeats 4000000 in
set_option maxRecDepth 100000 in
theorem sc_markIntS (wl w0 w:World) (S:Nat→Prop) (ok:Nat→Prop) (v:Value) (l:List Int) (a:Int) (hR:Kd.R (Kd.int .i64) 3 w0 wl.heap.size ok v l) (hok:∀k,ok k→S k) (hS:Sc S w0 w) (hB:Below wl.heap.size wl w) (ha0:0≤a) (ha:a+(cnS c_int l:Int)≤1099511627776) (hl:l.length≤9223372036854775807):
  Calls Tryz.prog 44 #[v,.int .i64 a] w fun e w'=>e=.returned (.int .i64 (a+(cnS c_int l:Int)))∧Sc S w0 w'∧Below wl.heap.size wl w':=by
 obtain ⟨A,c,ev⟩:=Kd.R_slice hR;subst ev;have HR:=a_ hR;have HOK:=a_ hok;have SC:=a_ hS;have HB:=a_ hB;have HA:=a_ ha;have HZ:Aside0 (a+(cnS c_int (l.take 0):Int)=a):=⟨by simp [cnS]⟩
 have HL:=a_ hl;clear hR hok hS hB ha hl;go_enter Tryz.func44,Tryz.ntmps44;go_wp2;go_loopg [1,5] l.length (fun gg v1 v5 wr=>∃(i:Nat) (b:Int),i≤l.length∧l.length-i≤gg∧0≤b∧v1=.int .i64 b∧v5=.int .i64 (i:Int)∧Aside0 (a+(cnS c_int (l.take i):Int)=b)∧Aside0 (Sc S w0 wr)∧Aside0 (Below wl.heap.size wl wr))
 case atStart=>exact ⟨0,a,Nat.zero_le _,Nat.sub_le _ _,ha0,rfl,rfl,HZ,SC,HB⟩
 clear HZ SC HB ha0;obtain ⟨i,b,hi,hgg,hb0,rfl,rfl,HC,SC,HB⟩:=hrel;by_cases hlt:i<l.length
 ·have hz:(i:Int)<(l.length:Int):=by omega
  have hz0:(0:Int)≤(i:Int):=by omega
  have hz1:(i:Int)≤9223372036854775806:=by have:=HL.out;omega
  have hcn:=cnS_take c_int 0 l i hlt;have hcl:=cnS_le c_int l (i+1);have hb1:b+(c_int (l.getD i 0):Int)≤1099511627776:=by have:=HA.out;have:=HC.out;omega
  have HCN:Aside0 (a+(cnS c_int (l.take (i+1)):Int)=b+(c_int (l.getD i 0):Int)):=⟨by have:=HC.out;omega⟩
  obtain ⟨g,cap,ev,hgb,_,_⟩:=Kd.R_form HR.out (by omega);injection ev with eA _ ec
  subst eA;subst ec;obtain ⟨cc,_,hM,hcc,hff⟩:=Kd.R_elem HR.out 0 (i:Int) hz0 hz;rw [Int.toNat_natCast] at hM hcc hff;have HG:=a_ hgb;have HSG:Aside0 (S g):=⟨HOK.out g (HR.out.1 g (by simp [Value.ownBlock]))⟩
  have hM:cc=[.int .i64 (l.getD i 0)]:=hM
  subst hM;generalize l.getD i 0=x at *;have K0:Aside0 (w0.cell? ⟨g,i,none⟩=some (.int .i64 x)):=⟨by have:=hcc 0 _ rfl;simpa [show (Kd.int .i64).sz=1 from rfl] using this⟩
  have Q0:Aside0 (w0.frozen? ⟨g,i,none⟩=false):=⟨by have:=hff 0;simpa [show (Kd.int .i64).sz=1 from rfl] using this⟩
  have P0:Aside0 (ScP S w0 ⟨g,i,none⟩):=⟨⟨HSG.out,_,K0.out,fun _ _ _ h=>by cases h⟩⟩
  have hbb:b≤1099511627776:=by omega
  have HBX:=a_ hb1;clear hcc hff hcn hcl hlt hgb hb1;obtain ⟨u0,h0⟩:=Sc.at_ SC.out K0.out;have f0:=Sc.fz SC.out K0.out Q0.out;go_wp2;go_roundg (l.length-(i+1))
  case measure=>omega
  case rel=>exact ⟨i+1,_,by omega,Nat.le_refl _,by omega,rfl,by go_num,⟨by rw [HCN.out];unfold c_int;omega⟩,⟨msc_ SC⟩,⟨mb_ HB⟩⟩
 ·have hil:i=l.length:=by omega
  subst hil;have hnl:¬((l.length:Nat):Int)<((l.length:Nat):Int):=by omega
  have hc:=HC.out;rw [List.take_length] at hc;have HC2:=a_ hc;clear hc HC hlt;go_wp2;go_ret;exact ⟨congrArg (fun z=>Ending.returned (.int .i64 z)) HC2.out.symm,SC.out,HB.out⟩
def c_Term (x:S134):Nat:=6
set_option maxHeartbeats 4000000 in
set_option maxRecDepth 100000 in
theorem sc_markTermS (wl w0 w:World) (S:Nat→Prop) (ok:Nat→Prop) (v:Value) (l:List S134) (a:Int) (hR:Kd.R k134 134 w0 wl.heap.size ok v l) (hok:∀k,ok k→S k) (hS:Sc S w0 w) (hB:Below wl.heap.size wl w) (ha0:0≤a) (ha:a+(cnS c_Term l:Int)≤1099511627776) (hl:l.length≤9223372036854775807):
  Calls Tryz.prog 65 #[v,.int .i64 a] w fun e w'=>e=.returned (.int .i64 (a+(cnS c_Term l:Int)))∧Sc S w0 w'∧Below wl.heap.size wl w':=by
 obtain ⟨A,c,ev⟩:=Kd.R_slice hR;subst ev;have HR:=a_ hR;have HOK:=a_ hok;have SC:=a_ hS;have HB:=a_ hB;have HA:=a_ ha;have HZ:Aside0 (a+(cnS c_Term (l.take 0):Int)=a):=⟨by simp [cnS]⟩
 have HL:=a_ hl;have hu:=Tryz.underlying134;have hu1:=Tryz.underlying104;clear hR hok hS hB ha hl;go_enter Tryz.func65,Tryz.ntmps65;go_wp2;go_loopg [1,5] l.length (fun gg v1 v5 wr=>∃(i:Nat) (b:Int),i≤l.length∧l.length-i≤gg∧0≤b∧v1=.int .i64 b∧v5=.int .i64 (i:Int)∧Aside0 (a+(cnS c_Term (l.take i):Int)=b)∧Aside0 (Sc S w0 wr)∧Aside0 (Below wl.heap.size wl wr))
 case atStart=>exact ⟨0,a,Nat.zero_le _,Nat.sub_le _ _,ha0,rfl,rfl,HZ,SC,HB⟩
 clear HZ SC HB ha0;obtain ⟨i,b,hi,hgg,hb0,rfl,rfl,HC,SC,HB⟩:=hrel;by_cases hlt:i<l.length
 ·have hz:(i:Int)<(l.length:Int):=by omega
  have hz0:(0:Int)≤(i:Int):=by omega
  have hz1:(i:Int)≤9223372036854775806:=by have:=HL.out;omega
  have hcn:=cnS_take c_Term z134 l i hlt;have hcl:=cnS_le c_Term l (i+1);have hb1:b+(c_Term (l.getD i z134):Int)≤1099511627776:=by have:=HA.out;have:=HC.out;omega
  have HCN:Aside0 (a+(cnS c_Term (l.take (i+1)):Int)=b+(c_Term (l.getD i z134):Int)):=⟨by have:=HC.out;omega⟩
  obtain ⟨g,cap,ev,hgb,_,_⟩:=Kd.R_form HR.out (by omega);injection ev with eA _ ec
  subst eA;subst ec;obtain ⟨cc,_,hM,hcc,hff⟩:=Kd.R_elem HR.out z134 (i:Int) hz0 hz;rw [Int.toNat_natCast] at hM hcc hff;have HG:=a_ hgb;have HSG:Aside0 (S g):=⟨HOK.out g (HR.out.1 g (by simp [Value.ownBlock]))⟩
  obtain rfl:=k134_openM hM;generalize l.getD i z134=x at *;have K0:Aside0 (w0.cell? ⟨g,i*6,none⟩=some (.int .i64 x.f0)):=⟨by have:=hcc 0 _ rfl;simpa [show k134.sz=6 from rfl] using this⟩
  have Q0:Aside0 (w0.frozen? ⟨g,i*6,none⟩=false):=⟨by have:=hff 0;simpa [show k134.sz=6 from rfl] using this⟩
  have P0:Aside0 (ScP S w0 ⟨g,i*6,none⟩):=⟨⟨HSG.out,_,K0.out,fun _ _ _ h=>by cases h⟩⟩
  have K1:Aside0 (w0.cell? ⟨g,i*6+1,none⟩=some (.int .i64 x.f1)):=⟨by have:=hcc 1 _ rfl;simpa [show k134.sz=6 from rfl] using this⟩
  have Q1:Aside0 (w0.frozen? ⟨g,i*6+1,none⟩=false):=⟨by have:=hff 1;simpa [show k134.sz=6 from rfl] using this⟩
  have P1:Aside0 (ScP S w0 ⟨g,i*6+1,none⟩):=⟨⟨HSG.out,_,K1.out,fun _ _ _ h=>by cases h⟩⟩
  have K2:Aside0 (w0.cell? ⟨g,i*6+2,none⟩=some (.string x.f2)):=⟨by have:=hcc 2 _ rfl;simpa [show k134.sz=6 from rfl] using this⟩
  have Q2:Aside0 (w0.frozen? ⟨g,i*6+2,none⟩=false):=⟨by have:=hff 2;simpa [show k134.sz=6 from rfl] using this⟩
  have P2:Aside0 (ScP S w0 ⟨g,i*6+2,none⟩):=⟨⟨HSG.out,_,K2.out,fun _ _ _ h=>by cases h⟩⟩
  have K3:Aside0 (w0.cell? ⟨g,i*6+3,none⟩=some (.int .i64 x.f3.f0)):=⟨by have:=hcc 3 _ rfl;simpa [show k134.sz=6 from rfl] using this⟩
  have Q3:Aside0 (w0.frozen? ⟨g,i*6+3,none⟩=false):=⟨by have:=hff 3;simpa [show k134.sz=6 from rfl] using this⟩
  have P3:Aside0 (ScP S w0 ⟨g,i*6+3,none⟩):=⟨⟨HSG.out,_,K3.out,fun _ _ _ h=>by cases h⟩⟩
  have K4:Aside0 (w0.cell? ⟨g,i*6+4,none⟩=some (.int .i64 x.f3.f1)):=⟨by have:=hcc 4 _ rfl;simpa [show k134.sz=6 from rfl] using this⟩
  have Q4:Aside0 (w0.frozen? ⟨g,i*6+4,none⟩=false):=⟨by have:=hff 4;simpa [show k134.sz=6 from rfl] using this⟩
  have P4:Aside0 (ScP S w0 ⟨g,i*6+4,none⟩):=⟨⟨HSG.out,_,K4.out,fun _ _ _ h=>by cases h⟩⟩
  have K5:Aside0 (w0.cell? ⟨g,i*6+5,none⟩=some (.string x.f3.f2)):=⟨by have:=hcc 5 _ rfl;simpa [show k134.sz=6 from rfl] using this⟩
  have Q5:Aside0 (w0.frozen? ⟨g,i*6+5,none⟩=false):=⟨by have:=hff 5;simpa [show k134.sz=6 from rfl] using this⟩
  have P5:Aside0 (ScP S w0 ⟨g,i*6+5,none⟩):=⟨⟨HSG.out,_,K5.out,fun _ _ _ h=>by cases h⟩⟩
  have hbb:b≤1099511627776:=by omega
  have HBX:=a_ hb1;clear hcc hff hM hcn hcl hlt hgb hb1;obtain ⟨u0,h0⟩:=Sc.at_ SC.out K0.out;have f0:=Sc.fz SC.out K0.out Q0.out;obtain ⟨u1,h1⟩:=Sc.at_ SC.out K1.out;have f1:=Sc.fz SC.out K1.out Q1.out;obtain ⟨u2,h2⟩:=Sc.at_ SC.out K2.out;have f2:=Sc.fz SC.out K2.out Q2.out;obtain ⟨u3,h3⟩:=Sc.at_ SC.out K3.out;have f3:=Sc.fz SC.out K3.out Q3.out;obtain ⟨u4,h4⟩:=Sc.at_ SC.out K4.out;have f4:=Sc.fz SC.out K4.out Q4.out;obtain ⟨u5,h5⟩:=Sc.at_ SC.out K5.out;have f5:=Sc.fz SC.out K5.out Q5.out;go_wp2_with (first|(go_at_call 40;refine (laws_markText.calls 20 _ _ _ (text20 _ (by omega) (by omega))).mono ?_;rintro e wx ⟨rfl,hd⟩;replace SC:=a_ (Sc.below (msc_ SC) hd);replace HB:=ms_ HB hd;clear h0 f0 h1 f1 h2 f2 h3 f3 h4 f4 h5 f5 hd;obtain ⟨u0,h0⟩:=Sc.at_ SC.out K0.out;have f0:=Sc.fz SC.out K0.out Q0.out;obtain ⟨u1,h1⟩:=Sc.at_ SC.out K1.out;have f1:=Sc.fz SC.out K1.out Q1.out;obtain ⟨u2,h2⟩:=Sc.at_ SC.out K2.out;have f2:=Sc.fz SC.out K2.out Q2.out;obtain ⟨u3,h3⟩:=Sc.at_ SC.out K3.out;have f3:=Sc.fz SC.out K3.out Q3.out;obtain ⟨u4,h4⟩:=Sc.at_ SC.out K4.out;have f4:=Sc.fz SC.out K4.out Q4.out;obtain ⟨u5,h5⟩:=Sc.at_ SC.out K5.out;have f5:=Sc.fz SC.out K5.out Q5.out));go_roundg (l.length-(i+1))
  case measure=>omega
  case rel=>exact ⟨i+1,_,by omega,Nat.le_refl _,by omega,rfl,by go_num,⟨by rw [HCN.out];unfold c_Term;omega⟩,⟨msc_ SC⟩,⟨mb_ HB⟩⟩
 ·have hil:i=l.length:=by omega
  subst hil;have hnl:¬((l.length:Nat):Int)<((l.length:Nat):Int):=by omega
  have hc:=HC.out;rw [List.take_length] at hc;have HC2:=a_ hc;clear hc HC hlt;go_wp2;go_ret;exact ⟨congrArg (fun z=>Ending.returned (.int .i64 z)) HC2.out.symm,SC.out,HB.out⟩
def c_Pattern (x:S101):Nat:=2+cnS c_Term x.f2
set_option maxHeartbeats 4000000 in
set_option maxRecDepth 100000 in
theorem sc_markPatternS (wl w0 w:World) (S:Nat→Prop) (ok:Nat→Prop) (v:Value) (l:List S101) (a:Int) (hR:Kd.R k101 101 w0 wl.heap.size ok v l) (hok:∀k,ok k→S k) (hS:Sc S w0 w) (hB:Below wl.heap.size wl w) (ha0:0≤a) (ha:a+(cnS c_Pattern l:Int)≤1099511627776) (hl:l.length≤9223372036854775807):
  Calls Tryz.prog 41 #[v,.int .i64 a] w fun e w'=>e=.returned (.int .i64 (a+(cnS c_Pattern l:Int)))∧Sc S w0 w'∧Below wl.heap.size wl w':=by
 obtain ⟨A,c,ev⟩:=Kd.R_slice hR;subst ev;have HR:=a_ hR;have HOK:=a_ hok;have SC:=a_ hS;have HB:=a_ hB;have HA:=a_ ha;have HZ:Aside0 (a+(cnS c_Pattern (l.take 0):Int)=a):=⟨by simp [cnS]⟩
 have HL:=a_ hl;have hu:=Tryz.underlying101;clear hR hok hS hB ha hl;go_enter Tryz.func41,Tryz.ntmps41;go_wp2;go_loopg [1,5] l.length (fun gg v1 v5 wr=>∃(i:Nat) (b:Int),i≤l.length∧l.length-i≤gg∧0≤b∧v1=.int .i64 b∧v5=.int .i64 (i:Int)∧Aside0 (a+(cnS c_Pattern (l.take i):Int)=b)∧Aside0 (Sc S w0 wr)∧Aside0 (Below wl.heap.size wl wr))
 case atStart=>exact ⟨0,a,Nat.zero_le _,Nat.sub_le _ _,ha0,rfl,rfl,HZ,SC,HB⟩
 clear HZ SC HB ha0;obtain ⟨i,b,hi,hgg,hb0,rfl,rfl,HC,SC,HB⟩:=hrel;by_cases hlt:i<l.length
 ·have hz:(i:Int)<(l.length:Int):=by omega
  have hz0:(0:Int)≤(i:Int):=by omega
  have hz1:(i:Int)≤9223372036854775806:=by have:=HL.out;omega
  have hcn:=cnS_take c_Pattern z101 l i hlt;have hcl:=cnS_le c_Pattern l (i+1);have hb1:b+(c_Pattern (l.getD i z101):Int)≤1099511627776:=by have:=HA.out;have:=HC.out;omega
  have HCN:Aside0 (a+(cnS c_Pattern (l.take (i+1)):Int)=b+(c_Pattern (l.getD i z101):Int)):=⟨by have:=HC.out;omega⟩
  obtain ⟨g,cap,ev,hgb,_,_⟩:=Kd.R_form HR.out (by omega);injection ev with eA _ ec
  subst eA;subst ec;obtain ⟨cc,_,hM,hcc,hff⟩:=Kd.R_elem HR.out z101 (i:Int) hz0 hz;rw [Int.toNat_natCast] at hM hcc hff;have HG:=a_ hgb;have HSG:Aside0 (S g):=⟨HOK.out g (HR.out.1 g (by simp [Value.ownBlock]))⟩
  obtain ⟨vs2,rfl,hI2⟩:=k101_openM hM;obtain ⟨A2,c2,es2⟩:=Kd.R_slice hI2;subst es2;have HI2:=a_ hI2;have HLI2:=a_ (Kd.R_reads' hI2).2.2.2.1;generalize l.getD i z101=x at *;have K0:Aside0 (w0.cell? ⟨g,i*3,none⟩=some (.bool x.f0)):=⟨by have:=hcc 0 _ rfl;simpa [show k101.sz=3 from rfl] using this⟩
  have Q0:Aside0 (w0.frozen? ⟨g,i*3,none⟩=false):=⟨by have:=hff 0;simpa [show k101.sz=3 from rfl] using this⟩
  have P0:Aside0 (ScP S w0 ⟨g,i*3,none⟩):=⟨⟨HSG.out,_,K0.out,fun _ _ _ h=>by cases h⟩⟩
  have K1:Aside0 (w0.cell? ⟨g,i*3+1,none⟩=some (.string x.f1)):=⟨by have:=hcc 1 _ rfl;simpa [show k101.sz=3 from rfl] using this⟩
  have Q1:Aside0 (w0.frozen? ⟨g,i*3+1,none⟩=false):=⟨by have:=hff 1;simpa [show k101.sz=3 from rfl] using this⟩
  have P1:Aside0 (ScP S w0 ⟨g,i*3+1,none⟩):=⟨⟨HSG.out,_,K1.out,fun _ _ _ h=>by cases h⟩⟩
  have K2:Aside0 (w0.cell? ⟨g,i*3+2,none⟩=some (.slice A2 x.f2.length c2)):=⟨by have:=hcc 2 _ rfl;simpa [show k101.sz=3 from rfl] using this⟩
  have hbb:b≤1099511627776:=by omega
  have HBX:=a_ hb1;clear hcc hff hM hI2 hcn hcl hlt hgb hb1;obtain ⟨u0,h0⟩:=Sc.at_ SC.out K0.out;have f0:=Sc.fz SC.out K0.out Q0.out;obtain ⟨u1,h1⟩:=Sc.at_ SC.out K1.out;have f1:=Sc.fz SC.out K1.out Q1.out;have h2:=Sc.sl SC.out K2.out;go_wp2_with (first|(go_at_call 40;refine (laws_markText.calls 20 _ _ _ (text20 _ (by omega) (by omega))).mono ?_;rintro e wx ⟨rfl,hd⟩;replace SC:=a_ (Sc.below (msc_ SC) hd);replace HB:=ms_ HB hd;clear h0 f0 h1 f1 h2 hd;obtain ⟨u0,h0⟩:=Sc.at_ SC.out K0.out;have f0:=Sc.fz SC.out K0.out Q0.out;obtain ⟨u1,h1⟩:=Sc.at_ SC.out K1.out;have f1:=Sc.fz SC.out K1.out Q1.out;have h2:=Sc.sl SC.out K2.out)|(go_at_call 65;refine (sc_markTermS wl w0 _ S _ _ x.f2 _ HI2.out (fun k_ hk_=>HOK.out k_ hk_.1) (msc_ SC) (mb_ HB) (by omega) (by have:=HBX.out;unfold c_Pattern at this;omega) (by have:=HLI2.out;omega)).mono ?_;rintro e wx ⟨rfl,hs_,hb_⟩;replace SC:=a_ hs_;replace HB:=a_ hb_;clear h0 f0 h1 f1 h2 hs_ hb_;obtain ⟨u0,h0⟩:=Sc.at_ SC.out K0.out;have f0:=Sc.fz SC.out K0.out Q0.out;obtain ⟨u1,h1⟩:=Sc.at_ SC.out K1.out;have f1:=Sc.fz SC.out K1.out Q1.out;have h2:=Sc.sl SC.out K2.out));go_roundg (l.length-(i+1))
  case measure=>omega
  case rel=>exact ⟨i+1,_,by omega,Nat.le_refl _,by omega,rfl,by go_num,⟨by rw [HCN.out];unfold c_Pattern;omega⟩,⟨msc_ SC⟩,⟨mb_ HB⟩⟩
 ·have hil:i=l.length:=by omega
  subst hil;have hnl:¬((l.length:Nat):Int)<((l.length:Nat):Int):=by omega
  have hc:=HC.out;rw [List.take_length] at hc;have HC2:=a_ hc;clear hc HC hlt;go_wp2;go_ret;exact ⟨congrArg (fun z=>Ending.returned (.int .i64 z)) HC2.out.symm,SC.out,HB.out⟩
def c_Expr (x:S106):Nat:=8
set_option maxHeartbeats 4000000 in
set_option maxRecDepth 100000 in
theorem sc_markExprS (wl w0 w:World) (S:Nat→Prop) (ok:Nat→Prop) (v:Value) (l:List S106) (a:Int) (hR:Kd.R k106 106 w0 wl.heap.size ok v l) (hok:∀k,ok k→S k) (hS:Sc S w0 w) (hB:Below wl.heap.size wl w) (ha0:0≤a) (ha:a+(cnS c_Expr l:Int)≤1099511627776) (hl:l.length≤9223372036854775807):
  Calls Tryz.prog 42 #[v,.int .i64 a] w fun e w'=>e=.returned (.int .i64 (a+(cnS c_Expr l:Int)))∧Sc S w0 w'∧Below wl.heap.size wl w':=by
 obtain ⟨A,c,ev⟩:=Kd.R_slice hR;subst ev;have HR:=a_ hR;have HOK:=a_ hok;have SC:=a_ hS;have HB:=a_ hB;have HA:=a_ ha;have HZ:Aside0 (a+(cnS c_Expr (l.take 0):Int)=a):=⟨by simp [cnS]⟩
 have HL:=a_ hl;have hu:=Tryz.underlying106;have hu1:=Tryz.underlying104;clear hR hok hS hB ha hl;go_enter Tryz.func42,Tryz.ntmps42;go_wp2;go_loopg [1,5] l.length (fun gg v1 v5 wr=>∃(i:Nat) (b:Int),i≤l.length∧l.length-i≤gg∧0≤b∧v1=.int .i64 b∧v5=.int .i64 (i:Int)∧Aside0 (a+(cnS c_Expr (l.take i):Int)=b)∧Aside0 (Sc S w0 wr)∧Aside0 (Below wl.heap.size wl wr))
 case atStart=>exact ⟨0,a,Nat.zero_le _,Nat.sub_le _ _,ha0,rfl,rfl,HZ,SC,HB⟩
 clear HZ SC HB ha0;obtain ⟨i,b,hi,hgg,hb0,rfl,rfl,HC,SC,HB⟩:=hrel;by_cases hlt:i<l.length
 ·have hz:(i:Int)<(l.length:Int):=by omega
  have hz0:(0:Int)≤(i:Int):=by omega
  have hz1:(i:Int)≤9223372036854775806:=by have:=HL.out;omega
  have hcn:=cnS_take c_Expr z106 l i hlt;have hcl:=cnS_le c_Expr l (i+1);have hb1:b+(c_Expr (l.getD i z106):Int)≤1099511627776:=by have:=HA.out;have:=HC.out;omega
  have HCN:Aside0 (a+(cnS c_Expr (l.take (i+1)):Int)=b+(c_Expr (l.getD i z106):Int)):=⟨by have:=HC.out;omega⟩
  obtain ⟨g,cap,ev,hgb,_,_⟩:=Kd.R_form HR.out (by omega);injection ev with eA _ ec
  subst eA;subst ec;obtain ⟨cc,_,hM,hcc,hff⟩:=Kd.R_elem HR.out z106 (i:Int) hz0 hz;rw [Int.toNat_natCast] at hM hcc hff;have HG:=a_ hgb;have HSG:Aside0 (S g):=⟨HOK.out g (HR.out.1 g (by simp [Value.ownBlock]))⟩
  obtain rfl:=k106_openM hM;generalize l.getD i z106=x at *;have K0:Aside0 (w0.cell? ⟨g,i*8,none⟩=some (.int .i64 x.f0)):=⟨by have:=hcc 0 _ rfl;simpa [show k106.sz=8 from rfl] using this⟩
  have Q0:Aside0 (w0.frozen? ⟨g,i*8,none⟩=false):=⟨by have:=hff 0;simpa [show k106.sz=8 from rfl] using this⟩
  have P0:Aside0 (ScP S w0 ⟨g,i*8,none⟩):=⟨⟨HSG.out,_,K0.out,fun _ _ _ h=>by cases h⟩⟩
  have K1:Aside0 (w0.cell? ⟨g,i*8+1,none⟩=some (.int .u8 x.f1)):=⟨by have:=hcc 1 _ rfl;simpa [show k106.sz=8 from rfl] using this⟩
  have Q1:Aside0 (w0.frozen? ⟨g,i*8+1,none⟩=false):=⟨by have:=hff 1;simpa [show k106.sz=8 from rfl] using this⟩
  have P1:Aside0 (ScP S w0 ⟨g,i*8+1,none⟩):=⟨⟨HSG.out,_,K1.out,fun _ _ _ h=>by cases h⟩⟩
  have K2:Aside0 (w0.cell? ⟨g,i*8+2,none⟩=some (.string x.f2)):=⟨by have:=hcc 2 _ rfl;simpa [show k106.sz=8 from rfl] using this⟩
  have Q2:Aside0 (w0.frozen? ⟨g,i*8+2,none⟩=false):=⟨by have:=hff 2;simpa [show k106.sz=8 from rfl] using this⟩
  have P2:Aside0 (ScP S w0 ⟨g,i*8+2,none⟩):=⟨⟨HSG.out,_,K2.out,fun _ _ _ h=>by cases h⟩⟩
  have K3:Aside0 (w0.cell? ⟨g,i*8+3,none⟩=some (.int .i64 x.f3.f0)):=⟨by have:=hcc 3 _ rfl;simpa [show k106.sz=8 from rfl] using this⟩
  have Q3:Aside0 (w0.frozen? ⟨g,i*8+3,none⟩=false):=⟨by have:=hff 3;simpa [show k106.sz=8 from rfl] using this⟩
  have P3:Aside0 (ScP S w0 ⟨g,i*8+3,none⟩):=⟨⟨HSG.out,_,K3.out,fun _ _ _ h=>by cases h⟩⟩
  have K4:Aside0 (w0.cell? ⟨g,i*8+4,none⟩=some (.int .i64 x.f3.f1)):=⟨by have:=hcc 4 _ rfl;simpa [show k106.sz=8 from rfl] using this⟩
  have Q4:Aside0 (w0.frozen? ⟨g,i*8+4,none⟩=false):=⟨by have:=hff 4;simpa [show k106.sz=8 from rfl] using this⟩
  have P4:Aside0 (ScP S w0 ⟨g,i*8+4,none⟩):=⟨⟨HSG.out,_,K4.out,fun _ _ _ h=>by cases h⟩⟩
  have K5:Aside0 (w0.cell? ⟨g,i*8+5,none⟩=some (.string x.f3.f2)):=⟨by have:=hcc 5 _ rfl;simpa [show k106.sz=8 from rfl] using this⟩
  have Q5:Aside0 (w0.frozen? ⟨g,i*8+5,none⟩=false):=⟨by have:=hff 5;simpa [show k106.sz=8 from rfl] using this⟩
  have P5:Aside0 (ScP S w0 ⟨g,i*8+5,none⟩):=⟨⟨HSG.out,_,K5.out,fun _ _ _ h=>by cases h⟩⟩
  have K6:Aside0 (w0.cell? ⟨g,i*8+6,none⟩=some (.int .i64 x.f4)):=⟨by have:=hcc 6 _ rfl;simpa [show k106.sz=8 from rfl] using this⟩
  have Q6:Aside0 (w0.frozen? ⟨g,i*8+6,none⟩=false):=⟨by have:=hff 6;simpa [show k106.sz=8 from rfl] using this⟩
  have P6:Aside0 (ScP S w0 ⟨g,i*8+6,none⟩):=⟨⟨HSG.out,_,K6.out,fun _ _ _ h=>by cases h⟩⟩
  have K7:Aside0 (w0.cell? ⟨g,i*8+7,none⟩=some (.int .i64 x.f5)):=⟨by have:=hcc 7 _ rfl;simpa [show k106.sz=8 from rfl] using this⟩
  have Q7:Aside0 (w0.frozen? ⟨g,i*8+7,none⟩=false):=⟨by have:=hff 7;simpa [show k106.sz=8 from rfl] using this⟩
  have P7:Aside0 (ScP S w0 ⟨g,i*8+7,none⟩):=⟨⟨HSG.out,_,K7.out,fun _ _ _ h=>by cases h⟩⟩
  have hbb:b≤1099511627776:=by omega
  have HBX:=a_ hb1;clear hcc hff hM hcn hcl hlt hgb hb1;obtain ⟨u0,h0⟩:=Sc.at_ SC.out K0.out;have f0:=Sc.fz SC.out K0.out Q0.out;obtain ⟨u1,h1⟩:=Sc.at_ SC.out K1.out;have f1:=Sc.fz SC.out K1.out Q1.out;obtain ⟨u2,h2⟩:=Sc.at_ SC.out K2.out;have f2:=Sc.fz SC.out K2.out Q2.out;obtain ⟨u3,h3⟩:=Sc.at_ SC.out K3.out;have f3:=Sc.fz SC.out K3.out Q3.out;obtain ⟨u4,h4⟩:=Sc.at_ SC.out K4.out;have f4:=Sc.fz SC.out K4.out Q4.out;obtain ⟨u5,h5⟩:=Sc.at_ SC.out K5.out;have f5:=Sc.fz SC.out K5.out Q5.out;obtain ⟨u6,h6⟩:=Sc.at_ SC.out K6.out;have f6:=Sc.fz SC.out K6.out Q6.out;obtain ⟨u7,h7⟩:=Sc.at_ SC.out K7.out;have f7:=Sc.fz SC.out K7.out Q7.out;go_wp2_with (first|(go_at_call 40;refine (laws_markText.calls 20 _ _ _ (text20 _ (by omega) (by omega))).mono ?_;rintro e wx ⟨rfl,hd⟩;replace SC:=a_ (Sc.below (msc_ SC) hd);replace HB:=ms_ HB hd;clear h0 f0 h1 f1 h2 f2 h3 f3 h4 f4 h5 f5 h6 f6 h7 f7 hd;obtain ⟨u0,h0⟩:=Sc.at_ SC.out K0.out;have f0:=Sc.fz SC.out K0.out Q0.out;obtain ⟨u1,h1⟩:=Sc.at_ SC.out K1.out;have f1:=Sc.fz SC.out K1.out Q1.out;obtain ⟨u2,h2⟩:=Sc.at_ SC.out K2.out;have f2:=Sc.fz SC.out K2.out Q2.out;obtain ⟨u3,h3⟩:=Sc.at_ SC.out K3.out;have f3:=Sc.fz SC.out K3.out Q3.out;obtain ⟨u4,h4⟩:=Sc.at_ SC.out K4.out;have f4:=Sc.fz SC.out K4.out Q4.out;obtain ⟨u5,h5⟩:=Sc.at_ SC.out K5.out;have f5:=Sc.fz SC.out K5.out Q5.out;obtain ⟨u6,h6⟩:=Sc.at_ SC.out K6.out;have f6:=Sc.fz SC.out K6.out Q6.out;obtain ⟨u7,h7⟩:=Sc.at_ SC.out K7.out;have f7:=Sc.fz SC.out K7.out Q7.out));go_roundg (l.length-(i+1))
  case measure=>omega
  case rel=>exact ⟨i+1,_,by omega,Nat.le_refl _,by omega,rfl,by go_num,⟨by rw [HCN.out];unfold c_Expr;omega⟩,⟨msc_ SC⟩,⟨mb_ HB⟩⟩
 ·have hil:i=l.length:=by omega
  subst hil;have hnl:¬((l.length:Nat):Int)<((l.length:Nat):Int):=by omega
  have hc:=HC.out;rw [List.take_length] at hc;have HC2:=a_ hc;clear hc HC hlt;go_wp2;go_ret;exact ⟨congrArg (fun z=>Ending.returned (.int .i64 z)) HC2.out.symm,SC.out,HB.out⟩
def c_Action (x:S108):Nat:=3+cnS c_int x.f3
set_option maxHeartbeats 4000000 in
set_option maxRecDepth 100000 in
theorem sc_markActionS (wl w0 w:World) (S:Nat→Prop) (ok:Nat→Prop) (v:Value) (l:List S108) (a:Int) (hR:Kd.R k108 108 w0 wl.heap.size ok v l) (hok:∀k,ok k→S k) (hS:Sc S w0 w) (hB:Below wl.heap.size wl w) (ha0:0≤a) (ha:a+(cnS c_Action l:Int)≤1099511627776) (hl:l.length≤9223372036854775807):
  Calls Tryz.prog 43 #[v,.int .i64 a] w fun e w'=>e=.returned (.int .i64 (a+(cnS c_Action l:Int)))∧Sc S w0 w'∧Below wl.heap.size wl w':=by
 obtain ⟨A,c,ev⟩:=Kd.R_slice hR;subst ev;have HR:=a_ hR;have HOK:=a_ hok;have SC:=a_ hS;have HB:=a_ hB;have HA:=a_ ha;have HZ:Aside0 (a+(cnS c_Action (l.take 0):Int)=a):=⟨by simp [cnS]⟩
 have HL:=a_ hl;have hu:=Tryz.underlying108;clear hR hok hS hB ha hl;go_enter Tryz.func43,Tryz.ntmps43;go_wp2;go_loopg [1,5] l.length (fun gg v1 v5 wr=>∃(i:Nat) (b:Int),i≤l.length∧l.length-i≤gg∧0≤b∧v1=.int .i64 b∧v5=.int .i64 (i:Int)∧Aside0 (a+(cnS c_Action (l.take i):Int)=b)∧Aside0 (Sc S w0 wr)∧Aside0 (Below wl.heap.size wl wr))
 case atStart=>exact ⟨0,a,Nat.zero_le _,Nat.sub_le _ _,ha0,rfl,rfl,HZ,SC,HB⟩
 clear HZ SC HB ha0;obtain ⟨i,b,hi,hgg,hb0,rfl,rfl,HC,SC,HB⟩:=hrel;by_cases hlt:i<l.length
 ·have hz:(i:Int)<(l.length:Int):=by omega
  have hz0:(0:Int)≤(i:Int):=by omega
  have hz1:(i:Int)≤9223372036854775806:=by have:=HL.out;omega
  have hcn:=cnS_take c_Action z108 l i hlt;have hcl:=cnS_le c_Action l (i+1);have hb1:b+(c_Action (l.getD i z108):Int)≤1099511627776:=by have:=HA.out;have:=HC.out;omega
  have HCN:Aside0 (a+(cnS c_Action (l.take (i+1)):Int)=b+(c_Action (l.getD i z108):Int)):=⟨by have:=HC.out;omega⟩
  obtain ⟨g,cap,ev,hgb,_,_⟩:=Kd.R_form HR.out (by omega);injection ev with eA _ ec
  subst eA;subst ec;obtain ⟨cc,_,hM,hcc,hff⟩:=Kd.R_elem HR.out z108 (i:Int) hz0 hz;rw [Int.toNat_natCast] at hM hcc hff;have HG:=a_ hgb;have HSG:Aside0 (S g):=⟨HOK.out g (HR.out.1 g (by simp [Value.ownBlock]))⟩
  obtain ⟨vs3,rfl,hI3⟩:=k108_openM hM;obtain ⟨A3,c3,es3⟩:=Kd.R_slice hI3;subst es3;have HI3:=a_ hI3;have HLI3:=a_ (Kd.R_reads' hI3).2.2.2.1;generalize l.getD i z108=x at *;have K0:Aside0 (w0.cell? ⟨g,i*4,none⟩=some (.int .i64 x.f0)):=⟨by have:=hcc 0 _ rfl;simpa [show k108.sz=4 from rfl] using this⟩
  have Q0:Aside0 (w0.frozen? ⟨g,i*4,none⟩=false):=⟨by have:=hff 0;simpa [show k108.sz=4 from rfl] using this⟩
  have P0:Aside0 (ScP S w0 ⟨g,i*4,none⟩):=⟨⟨HSG.out,_,K0.out,fun _ _ _ h=>by cases h⟩⟩
  have K1:Aside0 (w0.cell? ⟨g,i*4+1,none⟩=some (.int .i64 x.f1)):=⟨by have:=hcc 1 _ rfl;simpa [show k108.sz=4 from rfl] using this⟩
  have Q1:Aside0 (w0.frozen? ⟨g,i*4+1,none⟩=false):=⟨by have:=hff 1;simpa [show k108.sz=4 from rfl] using this⟩
  have P1:Aside0 (ScP S w0 ⟨g,i*4+1,none⟩):=⟨⟨HSG.out,_,K1.out,fun _ _ _ h=>by cases h⟩⟩
  have K2:Aside0 (w0.cell? ⟨g,i*4+2,none⟩=some (.string x.f2)):=⟨by have:=hcc 2 _ rfl;simpa [show k108.sz=4 from rfl] using this⟩
  have Q2:Aside0 (w0.frozen? ⟨g,i*4+2,none⟩=false):=⟨by have:=hff 2;simpa [show k108.sz=4 from rfl] using this⟩
  have P2:Aside0 (ScP S w0 ⟨g,i*4+2,none⟩):=⟨⟨HSG.out,_,K2.out,fun _ _ _ h=>by cases h⟩⟩
  have K3:Aside0 (w0.cell? ⟨g,i*4+3,none⟩=some (.slice A3 x.f3.length c3)):=⟨by have:=hcc 3 _ rfl;simpa [show k108.sz=4 from rfl] using this⟩
  have hbb:b≤1099511627776:=by omega
  have HBX:=a_ hb1;clear hcc hff hM hI3 hcn hcl hlt hgb hb1;obtain ⟨u0,h0⟩:=Sc.at_ SC.out K0.out;have f0:=Sc.fz SC.out K0.out Q0.out;obtain ⟨u1,h1⟩:=Sc.at_ SC.out K1.out;have f1:=Sc.fz SC.out K1.out Q1.out;obtain ⟨u2,h2⟩:=Sc.at_ SC.out K2.out;have f2:=Sc.fz SC.out K2.out Q2.out;have h3:=Sc.sl SC.out K3.out;go_wp2_with (first|(go_at_call 40;refine (laws_markText.calls 20 _ _ _ (text20 _ (by omega) (by omega))).mono ?_;rintro e wx ⟨rfl,hd⟩;replace SC:=a_ (Sc.below (msc_ SC) hd);replace HB:=ms_ HB hd;clear h0 f0 h1 f1 h2 f2 h3 hd;obtain ⟨u0,h0⟩:=Sc.at_ SC.out K0.out;have f0:=Sc.fz SC.out K0.out Q0.out;obtain ⟨u1,h1⟩:=Sc.at_ SC.out K1.out;have f1:=Sc.fz SC.out K1.out Q1.out;obtain ⟨u2,h2⟩:=Sc.at_ SC.out K2.out;have f2:=Sc.fz SC.out K2.out Q2.out;have h3:=Sc.sl SC.out K3.out)|(go_at_call 44;refine (sc_markIntS wl w0 _ S _ _ x.f3 _ HI3.out (fun k_ hk_=>HOK.out k_ hk_.1) (msc_ SC) (mb_ HB) (by omega) (by have:=HBX.out;unfold c_Action at this;omega) (by have:=HLI3.out;omega)).mono ?_;rintro e wx ⟨rfl,hs_,hb_⟩;replace SC:=a_ hs_;replace HB:=a_ hb_;clear h0 f0 h1 f1 h2 f2 h3 hs_ hb_;obtain ⟨u0,h0⟩:=Sc.at_ SC.out K0.out;have f0:=Sc.fz SC.out K0.out Q0.out;obtain ⟨u1,h1⟩:=Sc.at_ SC.out K1.out;have f1:=Sc.fz SC.out K1.out Q1.out;obtain ⟨u2,h2⟩:=Sc.at_ SC.out K2.out;have f2:=Sc.fz SC.out K2.out Q2.out;have h3:=Sc.sl SC.out K3.out));go_roundg (l.length-(i+1))
  case measure=>omega
  case rel=>exact ⟨i+1,_,by omega,Nat.le_refl _,by omega,rfl,by go_num,⟨by rw [HCN.out];unfold c_Action;omega⟩,⟨msc_ SC⟩,⟨mb_ HB⟩⟩
 ·have hil:i=l.length:=by omega
  subst hil;have hnl:¬((l.length:Nat):Int)<((l.length:Nat):Int):=by omega
  have hc:=HC.out;rw [List.take_length] at hc;have HC2:=a_ hc;clear hc HC hlt;go_wp2;go_ret;exact ⟨congrArg (fun z=>Ending.returned (.int .i64 z)) HC2.out.symm,SC.out,HB.out⟩
def c_Rule (x:S58):Nat:=2+cnS c_Pattern x.f2+cnS c_Expr x.f3+cnS c_Action x.f4
set_option maxHeartbeats 4000000 in
set_option maxRecDepth 100000 in
theorem sc_markRuleS (wl w0 w:World) (S:Nat→Prop) (ok:Nat→Prop) (v:Value) (l:List S58) (a:Int) (hR:Kd.R k58 58 w0 wl.heap.size ok v l) (hok:∀k,ok k→S k) (hS:Sc S w0 w) (hB:Below wl.heap.size wl w) (ha0:0≤a) (ha:a+(cnS c_Rule l:Int)≤1099511627776) (hl:l.length≤9223372036854775807):
  Calls Tryz.prog 18 #[v,.int .i64 a] w fun e w'=>e=.returned (.int .i64 (a+(cnS c_Rule l:Int)))∧Sc S w0 w'∧Below wl.heap.size wl w':=by
 obtain ⟨A,c,ev⟩:=Kd.R_slice hR;subst ev;have HR:=a_ hR;have HOK:=a_ hok;have SC:=a_ hS;have HB:=a_ hB;have HA:=a_ ha;have HZ:Aside0 (a+(cnS c_Rule (l.take 0):Int)=a):=⟨by simp [cnS]⟩
 have HL:=a_ hl;have hu:=Tryz.underlying58;clear hR hok hS hB ha hl;go_enter Tryz.func18,Tryz.ntmps18;go_wp2;go_loopg [1,5] l.length (fun gg v1 v5 wr=>∃(i:Nat) (b:Int),i≤l.length∧l.length-i≤gg∧0≤b∧v1=.int .i64 b∧v5=.int .i64 (i:Int)∧Aside0 (a+(cnS c_Rule (l.take i):Int)=b)∧Aside0 (Sc S w0 wr)∧Aside0 (Below wl.heap.size wl wr))
 case atStart=>exact ⟨0,a,Nat.zero_le _,Nat.sub_le _ _,ha0,rfl,rfl,HZ,SC,HB⟩
 clear HZ SC HB ha0;obtain ⟨i,b,hi,hgg,hb0,rfl,rfl,HC,SC,HB⟩:=hrel;by_cases hlt:i<l.length
 ·have hz:(i:Int)<(l.length:Int):=by omega
  have hz0:(0:Int)≤(i:Int):=by omega
  have hz1:(i:Int)≤9223372036854775806:=by have:=HL.out;omega
  have hcn:=cnS_take c_Rule z58 l i hlt;have hcl:=cnS_le c_Rule l (i+1);have hb1:b+(c_Rule (l.getD i z58):Int)≤1099511627776:=by have:=HA.out;have:=HC.out;omega
  have HCN:Aside0 (a+(cnS c_Rule (l.take (i+1)):Int)=b+(c_Rule (l.getD i z58):Int)):=⟨by have:=HC.out;omega⟩
  obtain ⟨g,cap,ev,hgb,_,_⟩:=Kd.R_form HR.out (by omega);injection ev with eA _ ec
  subst eA;subst ec;obtain ⟨cc,_,hM,hcc,hff⟩:=Kd.R_elem HR.out z58 (i:Int) hz0 hz;rw [Int.toNat_natCast] at hM hcc hff;have HG:=a_ hgb;have HSG:Aside0 (S g):=⟨HOK.out g (HR.out.1 g (by simp [Value.ownBlock]))⟩
  obtain ⟨vs2,vs3,vs4,rfl,hI2,hI3,hI4⟩:=k58_openM hM;obtain ⟨A2,c2,es2⟩:=Kd.R_slice hI2;subst es2;have HI2:=a_ hI2;have HLI2:=a_ (Kd.R_reads' hI2).2.2.2.1;obtain ⟨A3,c3,es3⟩:=Kd.R_slice hI3;subst es3;have HI3:=a_ hI3;have HLI3:=a_ (Kd.R_reads' hI3).2.2.2.1;obtain ⟨A4,c4,es4⟩:=Kd.R_slice hI4;subst es4;have HI4:=a_ hI4;have HLI4:=a_ (Kd.R_reads' hI4).2.2.2.1;generalize l.getD i z58=x at *;have K0:Aside0 (w0.cell? ⟨g,i*5,none⟩=some (.string x.f0)):=⟨by have:=hcc 0 _ rfl;simpa [show k58.sz=5 from rfl] using this⟩
  have Q0:Aside0 (w0.frozen? ⟨g,i*5,none⟩=false):=⟨by have:=hff 0;simpa [show k58.sz=5 from rfl] using this⟩
  have P0:Aside0 (ScP S w0 ⟨g,i*5,none⟩):=⟨⟨HSG.out,_,K0.out,fun _ _ _ h=>by cases h⟩⟩
  have K1:Aside0 (w0.cell? ⟨g,i*5+1,none⟩=some (.int .i64 x.f1)):=⟨by have:=hcc 1 _ rfl;simpa [show k58.sz=5 from rfl] using this⟩
  have Q1:Aside0 (w0.frozen? ⟨g,i*5+1,none⟩=false):=⟨by have:=hff 1;simpa [show k58.sz=5 from rfl] using this⟩
  have P1:Aside0 (ScP S w0 ⟨g,i*5+1,none⟩):=⟨⟨HSG.out,_,K1.out,fun _ _ _ h=>by cases h⟩⟩
  have K2:Aside0 (w0.cell? ⟨g,i*5+2,none⟩=some (.slice A2 x.f2.length c2)):=⟨by have:=hcc 2 _ rfl;simpa [show k58.sz=5 from rfl] using this⟩
  have K3:Aside0 (w0.cell? ⟨g,i*5+3,none⟩=some (.slice A3 x.f3.length c3)):=⟨by have:=hcc 3 _ rfl;simpa [show k58.sz=5 from rfl] using this⟩
  have K4:Aside0 (w0.cell? ⟨g,i*5+4,none⟩=some (.slice A4 x.f4.length c4)):=⟨by have:=hcc 4 _ rfl;simpa [show k58.sz=5 from rfl] using this⟩
  have hbb:b≤1099511627776:=by omega
  have HBX:=a_ hb1;clear hcc hff hM hI2 hI3 hI4 hcn hcl hlt hgb hb1;obtain ⟨u0,h0⟩:=Sc.at_ SC.out K0.out;have f0:=Sc.fz SC.out K0.out Q0.out;obtain ⟨u1,h1⟩:=Sc.at_ SC.out K1.out;have f1:=Sc.fz SC.out K1.out Q1.out;have h2:=Sc.sl SC.out K2.out;have h3:=Sc.sl SC.out K3.out;have h4:=Sc.sl SC.out K4.out;go_wp2_with (first|(go_at_call 40;refine (laws_markText.calls 20 _ _ _ (text20 _ (by omega) (by omega))).mono ?_;rintro e wx ⟨rfl,hd⟩;replace SC:=a_ (Sc.below (msc_ SC) hd);replace HB:=ms_ HB hd;clear h0 f0 h1 f1 h2 h3 h4 hd;obtain ⟨u0,h0⟩:=Sc.at_ SC.out K0.out;have f0:=Sc.fz SC.out K0.out Q0.out;obtain ⟨u1,h1⟩:=Sc.at_ SC.out K1.out;have f1:=Sc.fz SC.out K1.out Q1.out;have h2:=Sc.sl SC.out K2.out;have h3:=Sc.sl SC.out K3.out;have h4:=Sc.sl SC.out K4.out)|(go_at_call 41;refine (sc_markPatternS wl w0 _ S _ _ x.f2 _ HI2.out (fun k_ hk_=>HOK.out k_ hk_.1) (msc_ SC) (mb_ HB) (by omega) (by have:=HBX.out;unfold c_Rule at this;omega) (by have:=HLI2.out;omega)).mono ?_;rintro e wx ⟨rfl,hs_,hb_⟩;replace SC:=a_ hs_;replace HB:=a_ hb_;clear h0 f0 h1 f1 h2 h3 h4 hs_ hb_;obtain ⟨u0,h0⟩:=Sc.at_ SC.out K0.out;have f0:=Sc.fz SC.out K0.out Q0.out;obtain ⟨u1,h1⟩:=Sc.at_ SC.out K1.out;have f1:=Sc.fz SC.out K1.out Q1.out;have h2:=Sc.sl SC.out K2.out;have h3:=Sc.sl SC.out K3.out;have h4:=Sc.sl SC.out K4.out)|(go_at_call 42;refine (sc_markExprS wl w0 _ S _ _ x.f3 _ HI3.out (fun k_ hk_=>HOK.out k_ hk_.1) (msc_ SC) (mb_ HB) (by omega) (by have:=HBX.out;unfold c_Rule at this;omega) (by have:=HLI3.out;omega)).mono ?_;rintro e wx ⟨rfl,hs_,hb_⟩;replace SC:=a_ hs_;replace HB:=a_ hb_;clear h0 f0 h1 f1 h2 h3 h4 hs_ hb_;obtain ⟨u0,h0⟩:=Sc.at_ SC.out K0.out;have f0:=Sc.fz SC.out K0.out Q0.out;obtain ⟨u1,h1⟩:=Sc.at_ SC.out K1.out;have f1:=Sc.fz SC.out K1.out Q1.out;have h2:=Sc.sl SC.out K2.out;have h3:=Sc.sl SC.out K3.out;have h4:=Sc.sl SC.out K4.out)|(go_at_call 43;refine (sc_markActionS wl w0 _ S _ _ x.f4 _ HI4.out (fun k_ hk_=>HOK.out k_ hk_.1) (msc_ SC) (mb_ HB) (by omega) (by have:=HBX.out;unfold c_Rule at this;omega) (by have:=HLI4.out;omega)).mono ?_;rintro e wx ⟨rfl,hs_,hb_⟩;replace SC:=a_ hs_;replace HB:=a_ hb_;clear h0 f0 h1 f1 h2 h3 h4 hs_ hb_;obtain ⟨u0,h0⟩:=Sc.at_ SC.out K0.out;have f0:=Sc.fz SC.out K0.out Q0.out;obtain ⟨u1,h1⟩:=Sc.at_ SC.out K1.out;have f1:=Sc.fz SC.out K1.out Q1.out;have h2:=Sc.sl SC.out K2.out;have h3:=Sc.sl SC.out K3.out;have h4:=Sc.sl SC.out K4.out));go_roundg (l.length-(i+1))
  case measure=>omega
  case rel=>exact ⟨i+1,_,by omega,Nat.le_refl _,by omega,rfl,by go_num,⟨by rw [HCN.out];unfold c_Rule;omega⟩,⟨msc_ SC⟩,⟨mb_ HB⟩⟩
 ·have hil:i=l.length:=by omega
  subst hil;have hnl:¬((l.length:Nat):Int)<((l.length:Nat):Int):=by omega
  have hc:=HC.out;rw [List.take_length] at hc;have HC2:=a_ hc;clear hc HC hlt;go_wp2;go_ret;exact ⟨congrArg (fun z=>Ending.returned (.int .i64 z)) HC2.out.symm,SC.out,HB.out⟩
end Go.Proofs.YtejjlkbbnhpbdaaGreat.Pure
namespace Go.Proofs.YtejjlkbbnhpbdaaGreat.Pure
open Go.RowKit Go.Proofs.YtejjlkbbnhpbdaaGreat.P Go.Proofs.YtejjlkbbnhpbdaaGreatW.PrintWords Go.Proofs.YtejjlkbbnhpbdaaGreatW.PrintLast Go.Proofs.YtejjlkbbnhpbdaaGreatX
set_option linter.unusedVariables false
set_option linter.unusedSimpArgs false
def In (a b k:Nat):Prop:=a≤k∧k<b
section
variable {α : Type} {d:Kd α} {e base n c:Nat} {W:World} {ok:Nat→Prop} {A:Option Addr} {v:Value} {xs:List α}
theorem S_in (h:Kd.S d e W base ok v xs):Kd.S d e W base (In base W.heap.size) v xs:=Kd.S_mono (Kd.S_bound h) (fun k hk=>⟨hk.2.1,hk.2.2.1⟩)
theorem R_in (h:d.R e W base ok v xs):d.R e W base (In base W.heap.size) v xs:=Kd.R_mono (Kd.R_bound h) (fun k hk=>⟨hk.2.1,hk.2.2.1⟩)
theorem N_in (h:Kd.N d e W base (fun k=>base≤k) v xs):Kd.N d e W base (In base W.heap.size) v xs:=Kd.N_mono (Kd.N_bound h) (fun k hk=>⟨hk.1,hk.2⟩)
theorem S_read (h:Kd.S d e W base ok (.slice A n c) xs):d.C W A xs.length xs:=(Kd.S_reads' h).2.2
theorem S_room (h:Kd.S d e W base ok (.slice A n c) xs):xs.length≤c:=(Kd.S_reads' h).1▸(Kd.S_reads' h).2.1
theorem R_read (h:d.R e W base ok (.slice A n c) xs):d.C W A xs.length xs:=(Kd.R_reads' h).2.2
theorem R_room (h:d.R e W base ok (.slice A n c) xs):xs.length≤c:=(Kd.R_reads' h).1▸(Kd.R_reads' h).2.1
theorem N_read (h:Kd.N d e W base ok (.slice A n c) xs):d.C W A xs.length xs:=(Kd.N_reads' h).2.2
theorem N_room (h:Kd.N d e W base ok (.slice A n c) xs):xs.length≤c:=(Kd.N_reads' h).1▸(Kd.N_reads' h).2.1
theorem in_lt {a b c f:Nat} (h:b≤c):∀k,In a b k→¬In c f k:=fun k h1 h2=>by have:=h1.2;have:=h2.1;omega
theorem in_gt {a b c f:Nat} (h:f≤a):∀k,In a b k→¬In c f k:=fun k h1 h2=>by have:=h1.1;have:=h2.2;omega
end
def FnExactAgenda.Facts (k:Nat) (l:List S50) (l1:List S25):Prop:=
 ∃s1:Int,laws_szRuleS.f k l 1048576=some s1∧(s1<0∨(0≤s1∧∃s2:Int,laws_szInstS.f k l1 s1=some s2∧(s2<0∨(0≤s2∧
  ∃(R:List S58) (I G:List S31) (z q:Int×List S31),
   laws_toRuleS.f k l=some R∧laws_toInstS.f k l1=some I∧spec_Agenda.f k R I=some G∧AgOk k R I G∧laws_eqInstS.f k G G=some true∧
   laws_eqRuleS.f k R R=some true∧laws_eqInstS.f k I I=some true∧1+(cnS c_Rule R:Int)≤1099511627776∧laws_markInstS.f k I (1+(cnS c_Rule R:Int))=some (z.1,z.2)∧0≤z.1∧
   laws_markInstS.f k G 1=some (q.1,q.2)∧laws_heldInstS.f k q.2 1=some q.1∧0≤q.1))))
open Classical in
noncomputable def laws_FnExactAgenda.f (k:Nat) (l:List S50) (l1:List S25):Option Bool:=if FnExactAgenda.Facts k l l1 then some true else none
set_option maxHeartbeats 16000000 in
set_option maxRecDepth 100000 in
theorem laws_FnExactAgenda.calls (k:Nat) (A0:Option Addr) (c0:Nat) (l0:List S50) (A1:Option Addr) (c1:Nat) (l1:List S25) (r:Bool) (w:World)
  (hr0:Kd.C k50 w A0 l0.length l0) (hc0:l0.length≤c0) (hr1:Kd.C k25 w A1 l1.length l1) (hc1:l1.length≤c1) (h:laws_FnExactAgenda.f k l0 l1=some r):
  Calls Tryz.prog 4 #[.slice A0 l0.length c0,.slice A1 l1.length c1] w fun e w'=>e=.returned (.bool r)∧Below w.heap.size w w':=by
 unfold laws_FnExactAgenda.f at h
 split at h
 case isFalse=>cases h
 case isTrue hF=>
 have hr:=Option.some.inj h;subst hr;clear h;have HR0:=a_ hr0;have HC0:=a_ hc0;have HR1:=a_ hr1;have HC1:=a_ hc1;have HB0:=a_ (Below.refl w.heap.size w);clear hr0 hc0 hr1 hc1;obtain ⟨s1,p1,hF⟩:=hF;have P1:=a_ p1;clear p1;rcases hF with hn|⟨hp,s2,p2,hF⟩
 ·have hb1:decide (s1<0)=true:=decide_eq_true hn
  clear hn;go_enter Tryz.func4,Tryz.ntmps4;go_wp2_with (first
  | (go_at_call 5;refine (laws_szRuleS.calls k _ _ l0 1048576 s1 _ (Kd.C_below HR0.out HB0.out) HC0.out P1.out).mono ?_;rintro e w16 ⟨rfl,hd⟩;have hs16:w.heap.size≤w16.heap.size:=hd.size;have HB16:Aside0 (Below w.heap.size w w16):=⟨below_step HB0.out hd⟩;clear hd))
  go_ret;exact ⟨rfl,HB16.out⟩
 have P2:=a_ p2;clear p2;have hb1:decide (s1<0)=false:=decide_eq_false (by omega)
 clear hp;rcases hF with hn|⟨hp,R,I,G,z,q,p3,p4,p5,p6,p7,p8,p9,p10,p11,p12,p13,p14,p15⟩
 ·have hb2:decide (s2<0)=true:=decide_eq_true hn
  clear hn;go_enter Tryz.func4,Tryz.ntmps4;go_wp2_with (first
  | (go_at_call 5;refine (laws_szRuleS.calls k _ _ l0 1048576 s1 _ (Kd.C_below HR0.out HB0.out) HC0.out P1.out).mono ?_;rintro e w16 ⟨rfl,hd⟩;have hs16:w.heap.size≤w16.heap.size:=hd.size;have HB16:Aside0 (Below w.heap.size w w16):=⟨below_step HB0.out hd⟩;clear hd)
  | (go_at_call 13;refine (laws_szInstS.calls k _ _ l1 s1 s2 _ (Kd.C_below HR1.out HB16.out) HC1.out P2.out).mono ?_;rintro e w21 ⟨rfl,hd⟩;have hs21:w16.heap.size≤w21.heap.size:=hd.size;have HB21:Aside0 (Below w.heap.size w w21):=⟨below_step HB16.out hd⟩;clear HB16;clear hd))
  go_ret;exact ⟨rfl,HB21.out⟩
 have P3:=a_ p3;have P4:=a_ p4;have P5:=a_ p5;have P6:=a_ p6;have P7:=a_ p7;have P8:=a_ p8;have P9:=a_ p9;have P10:=a_ p10;have P11:=a_ p11;have P13:=a_ p13;have P14:=a_ p14;have hb2:decide (s2<0)=false:=decide_eq_false (by omega)
 have hb3:decide (z.1<0)=false:=decide_eq_false (by omega)
 have hb5:(q.1 != q.1)=false:=by simp
 have hb4:decide (q.1<0)=false:=decide_eq_false (by omega)
 clear hp p3 p4 p5 p6 p7 p8 p9 p10 p11 p12 p13 p14 p15;go_enter Tryz.func4,Tryz.ntmps4
 go_wp2_with (first
  | (go_at_call 5;refine (laws_szRuleS.calls k _ _ l0 1048576 s1 _ (Kd.C_below HR0.out HB0.out) HC0.out P1.out).mono ?_;rintro e w16 ⟨rfl,hd⟩;have hs16:w.heap.size≤w16.heap.size:=hd.size;have HB16:Aside0 (Below w.heap.size w w16):=⟨below_step HB0.out hd⟩;clear hd)
  | (go_at_call 13;refine (laws_szInstS.calls k _ _ l1 s1 s2 _ (Kd.C_below HR1.out HB16.out) HC1.out P2.out).mono ?_;rintro e w21 ⟨rfl,hd⟩;have hs21:w16.heap.size≤w21.heap.size:=hd.size;have HB21:Aside0 (Below w.heap.size w w21):=⟨below_step HB16.out hd⟩;clear HB16;clear hd)
  | (go_at_call 8;refine (laws_toRuleS.calls k _ _ l0 R _ (Kd.C_below HR0.out HB21.out) HC0.out P3.out).mono ?_;rintro e w25 ⟨v0,rfl,ho0,hd⟩;(obtain ⟨At0,ct0,e_⟩:=Kd.R_slice ho0);subst e_;have hs25:w21.heap.size≤w25.heap.size:=hd.size;have HB25:Aside0 (Below w.heap.size w w25):=⟨below_step HB21.out hd⟩;clear HB21;have HOt0_25:=a_ (R_in ho0);clear ho0;clear hd)
  | (go_at_call 15;refine (laws_toInstS.calls k _ _ l1 I _ (Kd.C_below HR1.out HB25.out) HC1.out P4.out).mono ?_;rintro e w27 ⟨v0,rfl,ho0,hd⟩;(obtain ⟨At1,ct1,e_⟩:=Kd.S_slice ho0);subst e_;have hs27:w25.heap.size≤w27.heap.size:=hd.size;have HB27:Aside0 (Below w.heap.size w w27):=⟨below_step HB25.out hd⟩;clear HB25;have HOt0_27:=a_ (Kd.R_below HOt0_25.out hd);clear HOt0_25;have HOt1_27:=a_ (S_in ho0);clear ho0;clear hd)
  | (go_at_call 14;refine (spec_Agenda.calls k _ _ R _ _ I G _ (R_read HOt0_27.out) (R_room HOt0_27.out) (S_read HOt1_27.out) (S_room HOt1_27.out) P5.out).mono ?_;rintro e w28 ⟨v0,rfl,ho0,hd⟩;(obtain ⟨Aw0,cw0,e_⟩:=Kd.N_slice ho0);subst e_;have hs28:w27.heap.size≤w28.heap.size:=hd.size;have HB28:Aside0 (Below w.heap.size w w28):=⟨below_step HB27.out hd⟩;clear HB27;clear HOt0_27;clear HOt1_27;have HOw0_28:=a_ (N_in ho0);clear ho0;clear hd)
  | (go_at_call 8;refine (laws_toRuleS.calls k _ _ l0 R _ (Kd.C_below HR0.out HB28.out) HC0.out P3.out).mono ?_;rintro e w30 ⟨v0,rfl,ho0,hd⟩;(obtain ⟨Ax0,cx0,e_⟩:=Kd.R_slice ho0);subst e_;have hs30:w28.heap.size≤w30.heap.size:=hd.size;have HB30:Aside0 (Below w.heap.size w w30):=⟨below_step HB28.out hd⟩;have HOw0_30:=a_ (Kd.N_below HOw0_28.out hd);clear HOw0_28;have HOx0_30:=a_ (R_in ho0);clear ho0;have BL30:=a_ (below_step (Below.refl _ _) hd);clear hd)
  | (go_at_call 15;refine (laws_toInstS.calls k _ _ l1 I _ (Kd.C_below HR1.out HB30.out) HC1.out P4.out).mono ?_;rintro e w32 ⟨v0,rfl,ho0,hd⟩;(obtain ⟨Ax1,cx1,e_⟩:=Kd.S_slice ho0);subst e_;have hs32:w30.heap.size≤w32.heap.size:=hd.size;have HB32:Aside0 (Below w.heap.size w w32):=⟨below_step HB30.out hd⟩;clear HB30;have HOw0_32:=a_ (Kd.N_below HOw0_30.out hd);clear HOw0_30;have HOx0_32:=a_ (Kd.R_below HOx0_30.out hd);clear HOx0_30;have HOx1_32:=a_ (S_in ho0);clear ho0;have BL32:=a_ (below_step (BL30.out) hd);clear BL30;clear hd)
  | (go_at_call 16;refine (impl_Agenda.walk k _ _ R _ _ I G _ (R_read HOx0_32.out) (R_room HOx0_32.out) (S_read HOx1_32.out) (S_room HOx1_32.out) P6.out).mono ?_;rintro e w35 ⟨v0,rfl,ho0,hd⟩;(obtain ⟨Ag0,cg0,e_⟩:=Kd.S_slice ho0);subst e_;have hs35:w32.heap.size≤w35.heap.size:=hd.size;have HB35:Aside0 (Below w.heap.size w w35):=⟨below_step HB32.out hd⟩;clear HB32;have HOw0_35:=a_ (Kd.N_below HOw0_32.out hd);clear HOw0_32;have HOx0_35:=a_ (Kd.R_below HOx0_32.out hd);clear HOx0_32;have HOx1_35:=a_ (Kd.S_below HOx1_32.out hd);clear HOx1_32;have HOg0_35:=a_ (S_in ho0);clear ho0;have BL35:=a_ (below_step (BL32.out) hd);clear BL32;clear hd)
  | (go_at_call 17;refine (laws_eqInstS.calls k _ _ G _ _ G true _ (S_read HOg0_35.out) (S_room HOg0_35.out) (N_read HOw0_35.out) (N_room HOw0_35.out) P7.out).mono ?_;rintro e w38 ⟨rfl,hd⟩;have hs38:w35.heap.size≤w38.heap.size:=hd.size;have HB38:Aside0 (Below w.heap.size w w38):=⟨below_step HB35.out hd⟩;clear HB35;have HOw0_38:=a_ (Kd.N_below HOw0_35.out hd);clear HOw0_35;have HOx0_38:=a_ (Kd.R_below HOx0_35.out hd);clear HOx0_35;have HOx1_38:=a_ (Kd.S_below HOx1_35.out hd);clear HOx1_35;have HOg0_38:=a_ (Kd.S_below HOg0_35.out hd);clear HOg0_35;have BL38:=a_ (below_step (BL35.out) hd);clear BL35;clear hd)
  | (go_at_call 8;refine (laws_toRuleS.calls k _ _ l0 R _ (Kd.C_below HR0.out HB38.out) HC0.out P3.out).mono ?_;rintro e w42 ⟨v0,rfl,ho0,hd⟩;(obtain ⟨Ar2,cr2,e_⟩:=Kd.R_slice ho0);subst e_;have hs42:w38.heap.size≤w42.heap.size:=hd.size;have HB42:Aside0 (Below w.heap.size w w42):=⟨below_step HB38.out hd⟩;clear HB38;have HOw0_42:=a_ (Kd.N_below HOw0_38.out hd);clear HOw0_38;have HOx0_42:=a_ (Kd.R_below HOx0_38.out hd);clear HOx0_38;have HOx1_42:=a_ (Kd.S_below HOx1_38.out hd);clear HOx1_38;have HOg0_42:=a_ (Kd.S_below HOg0_38.out hd);clear HOg0_38;have HOr2_42:=a_ (R_in ho0);clear ho0;have BL42:=a_ (below_step (BL38.out) hd);clear BL38;clear hd)
  | (go_at_call 11;refine (laws_eqRuleS.calls k _ _ R _ _ R true _ (R_read HOx0_42.out) (R_room HOx0_42.out) (R_read HOr2_42.out) (R_room HOr2_42.out) P8.out).mono ?_;rintro e w43 ⟨rfl,hd⟩;have hs43:w42.heap.size≤w43.heap.size:=hd.size;have HB43:Aside0 (Below w.heap.size w w43):=⟨below_step HB42.out hd⟩;clear HB42;have HOw0_43:=a_ (Kd.N_below HOw0_42.out hd);clear HOw0_42;have HOx0_43:=a_ (Kd.R_below HOx0_42.out hd);clear HOx0_42;have HOx1_43:=a_ (Kd.S_below HOx1_42.out hd);clear HOx1_42;have HOg0_43:=a_ (Kd.S_below HOg0_42.out hd);clear HOg0_42;clear HOr2_42;have BL43:=a_ (below_step (BL42.out) hd);clear BL42;clear hd)
  | (go_at_call 15;refine (laws_toInstS.calls k _ _ l1 I _ (Kd.C_below HR1.out HB43.out) HC1.out P4.out).mono ?_;rintro e w47 ⟨v0,rfl,ho0,hd⟩;(obtain ⟨Ai2,ci2,e_⟩:=Kd.S_slice ho0);subst e_;have hs47:w43.heap.size≤w47.heap.size:=hd.size;have HB47:Aside0 (Below w.heap.size w w47):=⟨below_step HB43.out hd⟩;clear HB43;have HOw0_47:=a_ (Kd.N_below HOw0_43.out hd);clear HOw0_43;have HOx0_47:=a_ (Kd.R_below HOx0_43.out hd);clear HOx0_43;have HOx1_47:=a_ (Kd.S_below HOx1_43.out hd);clear HOx1_43;have HOg0_47:=a_ (Kd.S_below HOg0_43.out hd);clear HOg0_43;have HOi2_47:=a_ (S_in ho0);clear ho0;have BL47:=a_ (below_step (BL43.out) hd);clear BL43;clear hd)
  | (go_at_call 17;refine (laws_eqInstS.calls k _ _ I _ _ I true _ (S_read HOx1_47.out) (S_room HOx1_47.out) (S_read HOi2_47.out) (S_room HOi2_47.out) P9.out).mono ?_;rintro e w48 ⟨rfl,hd⟩;have hs48:w47.heap.size≤w48.heap.size:=hd.size;have HB48:Aside0 (Below w.heap.size w w48):=⟨below_step HB47.out hd⟩;clear HB47;have HOw0_48:=a_ (Kd.N_below HOw0_47.out hd);clear HOw0_47;have HOx0_48:=a_ (Kd.R_below HOx0_47.out hd);clear HOx0_47;have HOx1_48:=a_ (Kd.S_below HOx1_47.out hd);clear HOx1_47;have HOg0_48:=a_ (Kd.S_below HOg0_47.out hd);clear HOg0_47;clear HOi2_47;have BL48:=a_ (below_step (BL47.out) hd);clear BL47;clear hd)
  | (go_at_call 18;refine (sc_markRuleS w28 w48 _ (In w28.heap.size w30.heap.size) _ _ R 1 HOx0_48.out (fun _ h=>h) (Sc.refl _ _) BL48.out (by decide) P10.out (R_read HOx0_48.out).2.1).mono ?_;rintro e w52 ⟨rfl,hs_,hb_⟩;have hk:=hs_.2.2;have hs52:w48.heap.size≤w52.heap.size:=hk.1;have HB52:Aside0 (Below w.heap.size w w52):=⟨below_step HB28.out hb_⟩;clear HB48;have HOw0_52:=a_ (Kd.N_kept HOw0_48.out hk (in_lt (by omega)));clear HOw0_48;clear HOx0_48;have HOx1_52:=a_ (Kd.S_kept HOx1_48.out hk (in_gt (by omega)));clear HOx1_48;have HOg0_52:=a_ (Kd.S_kept HOg0_48.out hk (in_gt (by omega)));clear HOg0_48;clear hk;clear hs_ hb_ BL48 HB28)
  | (go_at_call 19;refine (laws_markInstS.calls k _ _ I _ z.1 z.2 w _ HB52.out (Kd.S_lower HOx1_52.out (by omega)) P11.out).mono ?_;rintro e w55 ⟨rfl,_,hb,hk⟩;have hs55:w52.heap.size≤w55.heap.size:=hk.1;have HB55:Aside0 (Below w.heap.size w w55):=⟨hb⟩;clear HB52;have HOw0_55:=a_ (Kd.N_kept HOw0_52.out hk (in_lt (by omega)));clear HOw0_52;clear HOx1_52;have HOg0_55:=a_ (Kd.S_kept HOg0_52.out hk (in_gt (by omega)));clear HOg0_52;clear hk;clear hb)
  | (go_at_call 17;refine (laws_eqInstS.calls k _ _ G _ _ G true _ (S_read HOg0_55.out) (S_room HOg0_55.out) (N_read HOw0_55.out) (N_room HOw0_55.out) P7.out).mono ?_;rintro e w61 ⟨rfl,hd⟩;have hs61:w55.heap.size≤w61.heap.size:=hd.size;have HB61:Aside0 (Below w.heap.size w w61):=⟨below_step HB55.out hd⟩;clear HB55;have HOw0_61:=a_ (Kd.N_below HOw0_55.out hd);clear HOw0_55;have HOg0_61:=a_ (Kd.S_below HOg0_55.out hd);clear HOg0_55;clear hd)
  | (go_at_call 19;refine (laws_markInstS.calls k _ _ G 1 q.1 q.2 w _ HB61.out (Kd.S_lower HOg0_61.out (by omega)) P13.out).mono ?_;rintro e w66 ⟨rfl,ho,hb,hk⟩;have HOgm_66:=a_ ho;clear ho;have HLG:Aside0 (G.length=q.2.length):=⟨(Kd.S_reads' HOgm_66.out).1⟩;have hs66:w61.heap.size≤w66.heap.size:=hk.1;have HB66:Aside0 (Below w.heap.size w w66):=⟨hb⟩;clear HB61;have HOw0_66:=a_ (Kd.N_kept HOw0_61.out hk (in_lt (by omega)));clear HOw0_61;clear HOg0_61;clear hk;clear hb)
  | (go_at_call 20;refine (calls_of_args (args':=#[.slice Ag0 q.2.length cg0,.int .i64 1]) (by rw [HLG.out]) (laws_heldInstS.calls k _ _ q.2 1 q.1 _ (S_read HOgm_66.out) (S_room HOgm_66.out) P14.out)).mono ?_;rintro e w69 ⟨rfl,hd⟩;replace hd:=hd.below;have hs69:w66.heap.size≤w69.heap.size:=hd.size;have HB69:Aside0 (Below w.heap.size w w69):=⟨below_step HB66.out hd⟩;clear HB66;have HOw0_69:=a_ (Kd.N_below HOw0_66.out hd);clear HOw0_66;have HOgm_69:=a_ (Kd.S_below HOgm_66.out hd);clear HOgm_66;clear hd)
  | (go_at_call 8;refine (laws_toRuleS.calls k _ _ l0 R _ (Kd.C_below HR0.out HB69.out) HC0.out P3.out).mono ?_;rintro e w76 ⟨v0,rfl,ho0,hd⟩;(obtain ⟨Ar3,cr3,e_⟩:=Kd.R_slice ho0);subst e_;have hs76:w69.heap.size≤w76.heap.size:=hd.size;have HB76:Aside0 (Below w.heap.size w w76):=⟨below_step HB69.out hd⟩;clear HB69;have HOw0_76:=a_ (Kd.N_below HOw0_69.out hd);clear HOw0_69;have HOgm_76:=a_ (Kd.S_below HOgm_69.out hd);clear HOgm_69;have HOr3_76:=a_ (R_in ho0);clear ho0;clear hd)
  | (go_at_call 15;refine (laws_toInstS.calls k _ _ l1 I _ (Kd.C_below HR1.out HB76.out) HC1.out P4.out).mono ?_;rintro e w78 ⟨v0,rfl,ho0,hd⟩;(obtain ⟨Ai3,ci3,e_⟩:=Kd.S_slice ho0);subst e_;have hs78:w76.heap.size≤w78.heap.size:=hd.size;have HB78:Aside0 (Below w.heap.size w w78):=⟨below_step HB76.out hd⟩;clear HB76;have HOw0_78:=a_ (Kd.N_below HOw0_76.out hd);clear HOw0_76;have HOgm_78:=a_ (Kd.S_below HOgm_76.out hd);clear HOgm_76;have HOr3_78:=a_ (Kd.R_below HOr3_76.out hd);clear HOr3_76;have HOi3_78:=a_ (S_in ho0);clear ho0;clear hd)
  | (go_at_call 16;refine (impl_Agenda.walk k _ _ R _ _ I G _ (R_read HOr3_78.out) (R_room HOr3_78.out) (S_read HOi3_78.out) (S_room HOi3_78.out) P6.out).mono ?_;rintro e w79 ⟨v0,rfl,ho0,hd⟩;(obtain ⟨Ah0,ch0,e_⟩:=Kd.S_slice ho0);subst e_;have hs79:w78.heap.size≤w79.heap.size:=hd.size;have HB79:Aside0 (Below w.heap.size w w79):=⟨below_step HB78.out hd⟩;clear HB78;have HOw0_79:=a_ (Kd.N_below HOw0_78.out hd);clear HOw0_78;have HOgm_79:=a_ (Kd.S_below HOgm_78.out hd);clear HOgm_78;clear HOr3_78;clear HOi3_78;have HOh0_79:=a_ (S_in ho0);clear ho0;clear hd)
  | (go_at_call 17;refine (laws_eqInstS.calls k _ _ G _ _ G true _ (S_read HOh0_79.out) (S_room HOh0_79.out) (N_read HOw0_79.out) (N_room HOw0_79.out) P7.out).mono ?_;rintro e w82 ⟨rfl,hd⟩;have hs82:w79.heap.size≤w82.heap.size:=hd.size;have HB82:Aside0 (Below w.heap.size w w82):=⟨below_step HB79.out hd⟩;clear HB79;have HOw0_82:=a_ (Kd.N_below HOw0_79.out hd);clear HOw0_79;have HOgm_82:=a_ (Kd.S_below HOgm_79.out hd);clear HOgm_79;clear HOh0_79;clear hd)
  | (go_at_call 20;refine (calls_of_args (args':=#[.slice Ag0 q.2.length cg0,.int .i64 1]) (by rw [HLG.out]) (laws_heldInstS.calls k _ _ q.2 1 q.1 _ (S_read HOgm_82.out) (S_room HOgm_82.out) P14.out)).mono ?_;rintro e w86 ⟨rfl,hd⟩;replace hd:=hd.below;have hs86:w82.heap.size≤w86.heap.size:=hd.size;have HB86:Aside0 (Below w.heap.size w w86):=⟨below_step HB82.out hd⟩;clear HB82;have HOw0_86:=a_ (Kd.N_below HOw0_82.out hd);clear HOw0_82;have HOgm_86:=a_ (Kd.S_below HOgm_82.out hd);clear HOgm_82;clear hd))
 go_ret;exact ⟨rfl,HB86.out⟩
end Go.Proofs.YtejjlkbbnhpbdaaGreat.Pure
namespace Go.Proofs.YtejjlkbbnhpbdaaGreat.Pure
open Go.RowKit Go.Proofs.YtejjlkbbnhpbdaaGreat.P Go.Proofs.YtejjlkbbnhpbdaaGreatW.PrintWords Go.Proofs.YtejjlkbbnhpbdaaGreatW.PrintLast Go.Proofs.YtejjlkbbnhpbdaaGreatX
set_option linter.unusedVariables false
set_option linter.unusedSimpArgs false
theorem goodSym_loop (s:ByteArray) (hs:s.size≤9223372036854775807):∀i,i≤s.size→Ev (fun k=>spec_l1GoodSym.l0 k s (i:Int)) (symFrom s i):=by
 refine up_ind ?_ ?_
 ·rw [symFrom_end];refine Ev.step (fun k=>by simp only [spec_l1GoodSym.l0];exact rfl) ?_;exact Ev.ifF (by omega) (Ev.now _)
 ·intro i hi ih;rw [symFrom_step s i hi];refine Ev.step (fun k=>by simp only [spec_l1GoodSym.l0,wrap_succ hi hs];exact rfl) ?_;refine Ev.ifT (by omega) ?_;refine Ev.ifT (by omega) ?_;generalize bt s (i:Int)=c
  have good:symOk c=true→Ev (fun k=>spec_l1GoodSym.l0 k s ((i+1:Nat):Int)) (symOk c&&symFrom s (i+1)):=by
   intro h;rw [h,Bool.true_and];exact ih
  have bad:symOk c=false→Ev (fun _=>some false) (symOk c&&symFrom s (i+1)):=by
   intro h;rw [h,Bool.false_and];exact Ev.now _
  repeat (first
   | exact good (by simp [symOk];omega)
   | exact bad (by simp [symOk];omega)
   | refine Ev.ite (fun _=>?_) (fun _=>?_))
theorem l1GoodSym_some (s:ByteArray):Ev (fun k=>spec_l1GoodSym.f k s) (goodSymB s):=by
 have hj:∀(b:Bool),s.size≤20→Ev (fun k=>spec_l1GoodSym.j0 k s b) (if b=true then false else symFrom s 0):=by
  intro b hs;refine Ev.step (fun k=>by simp only [spec_l1GoodSym.j0];exact rfl) ?_;cases b with
  | true=>exact Ev.ifT (by trivial) (Ev.now _)
  | false=>exact Ev.ifF (by simp) (goodSym_loop s (by omega) 0 (by omega))
 have hj1:Ev (fun k=>spec_l1GoodSym.j0 k s true) false:=by
  refine Ev.step (fun k=>by simp only [spec_l1GoodSym.j0];exact rfl) ?_;exact Ev.ifT (by trivial) (Ev.now _)
 unfold goodSymB
 refine Ev.congr (fun k=>by unfold spec_l1GoodSym.f;exact rfl) ?_;by_cases c1:s.size=0
 ·rw [if_pos c1];exact Ev.ifT (by omega) hj1
 rw [if_neg c1];refine Ev.ifF (by omega) ?_;by_cases c2:20<s.size
 ·rw [if_pos c2];exact Ev.ifT (by omega) hj1
 rw [if_neg c2];refine Ev.ifF (by omega) ?_;refine Ev.ifT (by omega) ?_;by_cases c3:bt s 0<97
 ·rw [if_pos c3];exact Ev.ifT (by omega) hj1
 rw [if_neg c3];refine Ev.ifF (by omega) ?_;refine Ev.as (hj _ (by omega)) ?_;by_cases c4:122<bt s 0
 ·rw [if_pos c4,if_pos (by simpa using c4)]
 ·rw [if_neg c4,if_neg (by simpa using c4)]
theorem toList_nil_iff (s:ByteArray):s.toList=[]↔s.toList.isEmpty=true:=by rw [List.isEmpty_iff]
theorem goodValueB_def (v:S104):goodValueB v=if v.f0=0 then v.f2.toList.isEmpty else if v.f0=1 then (if v.f1=0 then goodSymB v.f2 else false) else false:=by
 unfold goodValueB impl_Value_good.f impl_goodSym.f
 simp only [Option.bind_some];by_cases h:v.f0=0
 ·rw [if_pos h,if_pos h];simp only [Option.getD_some];rw [Bool.eq_iff_iff,beq_iff_eq];exact toList_nil_iff _
 ·rw [if_neg h,if_neg h];split
  ·split<;>rfl
  ·rfl
theorem l1GoodVal_some (v:S104):Ev (fun k=>spec_l1GoodVal.f k v.f0 v.f1 v.f2) (goodValueB v):=by
 rw [goodValueB_def];refine Ev.congr (fun k=>by unfold spec_l1GoodVal.f;exact rfl) ?_;refine Ev.ite (fun c0=>?_) (fun c0=>?_)
 ·rw [if_pos c0];refine Ev.ite (fun c1=>?_) (fun c1=>?_)
  ·exact Ev.as (Ev.now _) ((toList_nil_iff _).1 c1).symm
  ·rw [toList_nil_iff,Bool.not_eq_true] at c1;rw [c1];exact Ev.ifF (by omega) (Ev.now _)
 ·rw [if_neg c0];refine Ev.ite (fun c1=>?_) (fun c1=>?_)
  ·rw [if_pos c1];refine Ev.ite (fun c2=>?_) (fun c2=>?_)
   ·rw [if_pos c2];exact Ev.bind (l1GoodSym_some _) (Ev.now _)
   ·rw [if_neg c2];exact Ev.now _
  ·rw [if_neg c1];exact Ev.now _
theorem l2GoodCls_some (s:ByteArray):Ev (fun k=>spec_l2GoodCls.f k s) (goodClsB s):=by
 refine Ev.congr (fun k=>by unfold spec_l2GoodCls.f;exact rfl) ?_;refine Ev.bind (l1GoodSym_some _) ?_;unfold goodClsB
 refine Ev.ite (fun c0=>?_) (fun c0=>?_)
 ·rw [c0];exact Ev.now _
 ·rw [Bool.not_eq_true] at c0;rw [c0];exact Ev.now _
theorem l2Zero_some (v:S104):spec_l2Zero.f v.f0 v.f1 v.f2=some (zeroValB v):=by
 unfold spec_l2Zero.f zeroValB
 have e:(v.f2.toList==([]:List UInt8))=v.f2.toList.isEmpty:=by
  rw [Bool.eq_iff_iff,beq_iff_eq];exact toList_nil_iff _
 rw [e]
theorem goodSymB_nil (s:ByteArray) (h:s.toList.isEmpty=true):goodSymB s=false:=by
 have:s.size=0:=by
  rw [←toList_nil_iff,ByteArray.toList_eq] at h;have:=congrArg List.length h
  rw [Array.length_toList] at this;simpa using this
 unfold goodSymB
 rw [if_pos this]
theorem l2GoodTerm_some (t:S134):Ev (fun k=>spec_l2GoodTerm.f k t.f0 t.f1 t.f2 t.f3.f0 t.f3.f1 t.f3.f2) (goodTermB t):=by
 refine Ev.congr (fun k=>by unfold spec_l2GoodTerm.f;exact rfl) ?_;unfold goodTermB
 have hz:=l2Zero_some t.f3;have hv:=l1GoodVal_some t.f3;have hs:=l1GoodSym_some t.f2;refine Ev.ite (fun c0=>?_) (fun c0=>?_)
 ·rw [if_pos c0];refine Ev.ite (fun c1=>?_) (fun c1=>?_)
  ·refine Ev.ite (fun c2=>?_) (fun c2=>?_)
   ·rw [toList_nil_iff] at c2;refine Ev.bindE hz (Ev.as (Ev.now _) ?_);rw [c1,c2];rfl
   ·rw [toList_nil_iff,Bool.not_eq_true] at c2;refine Ev.as (Ev.now _) ?_;rw [c1,c2];rfl
  ·refine Ev.as (Ev.now _) ?_;rw [beq_eq_false_iff_ne.mpr c1];rfl
 rw [if_neg c0];refine Ev.ite (fun c0=>?_) (fun c0=>?_)
 ·rw [if_pos c0];refine Ev.ite (fun c1=>?_) (fun c1=>?_)
  ·refine Ev.ite (fun c2=>?_) (fun c2=>?_)
   ·rw [toList_nil_iff] at c2;refine Ev.bind hv (Ev.as (Ev.now _) ?_);rw [c1,c2];rfl
   ·rw [toList_nil_iff,Bool.not_eq_true] at c2;refine Ev.as (Ev.now _) ?_;rw [c1,c2];rfl
  ·refine Ev.as (Ev.now _) ?_;rw [beq_eq_false_iff_ne.mpr c1];rfl
 rw [if_neg c0];refine Ev.ite (fun c0=>?_) (fun c0=>?_)
 ·rw [if_pos c0];refine Ev.ite (fun c1=>?_) (fun c1=>?_)
  ·refine Ev.bind hs ?_;refine Ev.ite (fun c2=>?_) (fun c2=>?_)
   ·refine Ev.bindE hz (Ev.as (Ev.now _) ?_);rw [c1,c2];simp
   ·rw [Bool.not_eq_true] at c2;refine Ev.as (Ev.now _) ?_;rw [c2];simp
  ·refine Ev.as (Ev.now _) ?_;rw [beq_eq_false_iff_ne.mpr c1];rfl
 rw [if_neg c0];refine Ev.ite (fun c0=>?_) (fun c0=>?_)
 ·rw [if_pos c0];refine Ev.ite (fun c1=>?_) (fun c1=>?_)
  ·rw [if_neg (by omega)];refine Ev.ite (fun c2=>?_) (fun c2=>?_)
   ·rw [if_neg (by omega)];refine Ev.ite (fun c3=>?_) (fun c3=>?_)
    ·rw [toList_nil_iff] at c3;rw [if_pos c3];refine Ev.bind hv ?_;refine Ev.ite (fun c4=>?_) (fun c4=>?_)
     ·rw [c4];exact Ev.now _
     ·rw [Bool.not_eq_true] at c4;rw [c4];refine Ev.bind hs ?_;refine Ev.ifF ?_ (Ev.now _);rw [goodSymB_nil _ c3];simp
    ·rw [toList_nil_iff] at c3;rw [if_neg c3];refine Ev.bind hs ?_;refine Ev.ite (fun c4=>?_) (fun c4=>?_)
     ·rw [c4,Bool.true_and];exact Ev.bindE hz (Ev.now _)
     ·rw [Bool.not_eq_true] at c4;rw [c4];exact Ev.now _
   ·rw [if_pos (by omega)];exact Ev.now _
  ·rw [if_pos (by omega)];exact Ev.now _
 rw [if_neg c0];exact Ev.now _
theorem l2GoodPat_loop (ts:List S134) (hl:ts.length≤9223372036854775807):∀i,i≤ts.length→Ev (fun k=>spec_l2GoodPat.l0 k ts (ts.length:Int) (i:Int)) ((ts.drop i).all goodTermB):=by
 refine up_ind ?_ ?_
 ·rw [List.drop_length];refine Ev.step (fun k=>by simp only [spec_l2GoodPat.l0];exact rfl) ?_;exact Ev.ifF (by omega) (Ev.now _)
 ·intro i hi ih;rw [drop_getD z134 hi,List.all_cons];have hrd:rd_T134 ts (i:Int)=ts.getD i z134:=by simp [rd_T134]
  refine Ev.step (fun k=>by simp only [spec_l2GoodPat.l0,wrap_succ hi hl,hrd];exact rfl) ?_;refine Ev.ifT (by omega) ?_;refine Ev.ifT (by omega) ?_;refine Ev.ifT (by omega) ?_;refine Ev.bind (l2GoodTerm_some (ts.getD i z134)) ?_;refine Ev.ite (fun c=>?_) (fun c=>?_)
  ·rw [c,Bool.true_and];exact ih
  ·rw [Bool.not_eq_true] at c;rw [c];exact Ev.now _
theorem l2GoodPat_some (neg:Bool) (cls:ByteArray) (ts:List S134):Ev (fun k=>spec_l2GoodPat.f k neg cls ts) (goodPatB cls ts):=by
 refine Ev.congr (fun k=>by unfold spec_l2GoodPat.f;exact rfl) ?_;unfold goodPatB
 refine Ev.bind (l2GoodCls_some _) ?_;refine Ev.ite (fun c=>?_) (fun c=>?_)
 ·rw [c,Bool.true_and];refine Ev.step (fun k=>by simp only [spec_l2GoodPat.j0];exact rfl) ?_;by_cases h:ts.length≤6
  ·refine Ev.ifF (by simp;omega) ?_;rw [decide_eq_true h,Bool.true_and];have:=l2GoodPat_loop ts (by omega) 0 (Nat.zero_le _)
   rw [List.drop_zero] at this;exact this
  ·refine Ev.ifT (by simp;omega) ?_;rw [decide_eq_false h];exact Ev.now _
 ·rw [Bool.not_eq_true] at c;rw [c];refine Ev.step (fun k=>by simp only [spec_l2GoodPat.j0];exact rfl) ?_;exact Ev.ifT (by trivial) (Ev.now _)
end Go.Proofs.YtejjlkbbnhpbdaaGreat.Pure
namespace Go.Proofs.YtejjlkbbnhpbdaaGreat.Pure
open Go.RowKit Go.Proofs.YtejjlkbbnhpbdaaGreat.P Go.Proofs.YtejjlkbbnhpbdaaGreatW.PrintWords Go.Proofs.YtejjlkbbnhpbdaaGreatW.PrintLast Go.Proofs.YtejjlkbbnhpbdaaGreatX
set_option linter.unusedVariables false
set_option linter.unusedSimpArgs false
def exA (es:List S106) (j:Nat):S106:=es.getD j z106
theorem rdE (es:List S106) (j:Nat):rd_T106 es (j:Int)=exA es j:=by simp [rd_T106,exA]
structure TInv (es:List S106) (i:Nat) (fs ds:List Int):Prop where
 lf:fs.length=i
 ld:ds.length=i
 at_:∀j,j<i→0≤fs.getD j 0∧fs.getD j 0≤(j:Int)∧0≤ds.getD j 0∧ds.getD j 0≤20∧
   ((exA es j).f0≠2∧fs.getD j 0=(j:Int)∧ds.getD j 0=0∨(exA es j).f0=2∧∃a b:Nat,a<j∧b<j∧(exA es j).f4=(a:Int)∧(exA es j).f5=(b:Int)∧fs.getD j 0=fs.getD a 0∧ds.getD j 0=1+mx (ds.getD a 0) (ds.getD b 0))
theorem first_ev {es:List S106} {i:Nat} {fs ds:List Int} (h:TInv es i fs ds) (hi:i≤es.length):∀j,j<i→Ev (fun k=>spec_l2First.f k es (j:Int)) (fs.getD j 0):=by
 intro j;induction j using Nat.strongRecOn with
 | ind j ih=>
  intro hj;obtain ⟨_,_,_,_,hc⟩:=h.at_ j hj;refine Ev.congr (fun k=>by unfold spec_l2First.f;exact rfl) ?_;refine Ev.step (fun k=>by simp only [spec_l2First.l0,rdE];exact rfl) ?_;refine Ev.ifT (by omega) (Ev.ifT (by omega) ?_);rcases hc with ⟨h1,h2,_⟩|⟨h1,a,b,ha,hb,h4,h5,h6,_⟩
  ·exact Ev.ifF h1 (Ev.as (Ev.now _) h2.symm)
  ·refine Ev.ifT h1 ?_;rw [h4,h6];exact ih a ha (by omega)
theorem mx_ge0 {a b:Int} (ha:0≤a) (hb:0≤b):0≤mx a b:=by unfold mx;split<;>omega
theorem depth_node {es:List S106} (j a b:Nat) (da db:Int) (hj:j<es.length) (h1:(exA es j).f0=2) (h4:(exA es j).f4=(a:Int)) (h5:(exA es j).f5=(b:Int)) (ha0:0≤da) (ha1:da≤20) (hb0:0≤db) (hb1:db≤20)
  (ha:Ev (fun k=>spec_l2Depth.f k es (a:Int)) da) (hb:Ev (fun k=>spec_l2Depth.f k es (b:Int)) db):Ev (fun k=>spec_l2Depth.f k es (j:Int)) (1+mx da db):=by
 refine Ev.step (fun k=>by simp only [spec_l2Depth.f,rdE];exact rfl) ?_;refine Ev.ifT (by omega) (Ev.ifT (by omega) (Ev.ifT h1 ?_));rw [h4,h5];refine Ev.bind ha (Ev.bind hb ?_);refine Ev.ite (fun c=>?_) (fun c=>?_)
 ·refine Ev.as (Ev.now _) ?_;rw [show wrap64 (db+1)=db+1 by unfold wrap64;omega,mx_lt c];omega
 ·refine Ev.as (Ev.now _) ?_;rw [show wrap64 (da+1)=da+1 by unfold wrap64;omega,mx_ge c];omega
theorem depth_leaf {es:List S106} (j:Nat) (hj:j<es.length) (h1:(exA es j).f0≠2):Ev (fun k=>spec_l2Depth.f k es (j:Int)) 0:=by
 refine Ev.step (fun k=>by simp only [spec_l2Depth.f,rdE];exact rfl) ?_;exact Ev.ifT (by omega) (Ev.ifT (by omega) (Ev.ifF h1 (Ev.now _)))
theorem depth_ev {es:List S106} {i:Nat} {fs ds:List Int} (h:TInv es i fs ds) (hi:i≤es.length):∀j,j<i→Ev (fun k=>spec_l2Depth.f k es (j:Int)) (ds.getD j 0):=by
 intro j;induction j using Nat.strongRecOn with
 | ind j ih=>
  intro hj;obtain ⟨_,_,_,_,hc⟩:=h.at_ j hj;rcases hc with ⟨h1,_,h2⟩|⟨h1,a,b,ha,hb,h4,h5,_,h7⟩
  ·rw [h2];exact depth_leaf j (by omega) h1
  ·rw [h7];have ka:=h.at_ a (by omega);have kb:=h.at_ b (by omega);exact depth_node j a b _ _ (by omega) h1 h4 h5 ka.2.2.1 ka.2.2.2.1 kb.2.2.1 kb.2.2.2.1 (ih a ha (by omega)) (ih b hb (by omega))
theorem getD_snoc_lt {xs:List Int} {y:Int} {j:Nat} (h:j<xs.length):(xs++[y]).getD j 0=xs.getD j 0:=by
 rw [List.getD_eq_getElem?_getD,List.getD_eq_getElem?_getD,List.getElem?_append_left h]
theorem getD_snoc_eq {xs:List Int} {y:Int} {j:Nat} (h:j=xs.length):(xs++[y]).getD j 0=y:=by
 subst h;simp
theorem TInv.snoc {es:List S106} {i:Nat} {fs ds:List Int} (h:TInv es i fs ds) (f d:Int)
  (hf0:0≤f) (hf1:f≤(i:Int)) (hd0:0≤d) (hd1:d≤20)
  (hc:(exA es i).f0≠2∧f=(i:Int)∧d=0∨(exA es i).f0=2∧∃a b:Nat,a<i∧b<i∧(exA es i).f4=(a:Int)∧(exA es i).f5=(b:Int)∧f=fs.getD a 0∧d=1+mx (ds.getD a 0) (ds.getD b 0)):TInv es (i+1) (fs++[f]) (ds++[d]):=by
 have hl:=h.lf;have hd:=h.ld;refine ⟨by simp [hl],by simp [hd],fun j hj=>?_⟩;by_cases e:j=i
 ·subst e;rw [getD_snoc_eq hl.symm,getD_snoc_eq hd.symm];refine ⟨hf0,hf1,hd0,hd1,?_⟩;rcases hc with hc|⟨h1,a,b,ha,hb,h4,h5,h6,h7⟩
  ·exact Or.inl hc
  ·exact Or.inr ⟨h1,a,b,ha,hb,h4,h5,by rw [getD_snoc_lt (by omega)];exact h6,by rw [getD_snoc_lt (by omega),getD_snoc_lt (by omega)];exact h7⟩
 ·have hj2:j<i:=by omega
  rw [getD_snoc_lt (by omega),getD_snoc_lt (by omega)];obtain ⟨a0,a1,a2,a3,hc⟩:=h.at_ j hj2;refine ⟨a0,a1,a2,a3,?_⟩;rcases hc with hc|⟨h1,a,b,ha,hb,h4,h5,h6,h7⟩
  ·exact Or.inl hc
  ·exact Or.inr ⟨h1,a,b,ha,hb,h4,h5,by rw [getD_snoc_lt (by omega)];exact h6,by rw [getD_snoc_lt (by omega),getD_snoc_lt (by omega)];exact h7⟩
def leafB (x:S106):Bool:=x.f1==0&&(x.f4==0&&x.f5==0)
theorem beq_nil (l:List UInt8):(l==([]:List UInt8))=l.isEmpty:=by cases l<;>rfl
theorem onlyC_eq (x:S106) (h:x.f0=0):onlyC x=(leafB x&&x.f2.toList.isEmpty):=by
 unfold onlyC exEq leafB
 rw [h];have e0:((⟨#[]⟩:ByteArray)).toList=[]:=by rw [ByteArray.toList_eq]
 rw [e0,beq_nil];simp only [BEq.rfl,Bool.true_and];cases x.f1==0<;>cases x.f4==0<;>cases x.f5==0<;>cases x.f2.toList.isEmpty<;>rfl
theorem onlyV_eq (x:S106) (h:x.f0=1):onlyV x=(leafB x&&zeroValB x.f3):=by
 unfold onlyV exEq leafB zeroValB
 rw [h];have e0:((⟨#[]⟩:ByteArray)).toList=[]:=by rw [ByteArray.toList_eq]
 rw [e0,beq_nil];simp only [BEq.rfl,Bool.true_and];cases x.f1==0<;>cases x.f4==0<;>cases x.f5==0<;>cases x.f3.f0==0<;>cases x.f3.f1==0<;>cases x.f3.f2.toList.isEmpty<;>rfl
theorem onlyO_eq (x:S106) (h:x.f0=2):onlyO x=(x.f2.toList.isEmpty&&zeroValB x.f3):=by
 unfold onlyO exEq zeroValB
 rw [h];have e0:((⟨#[]⟩:ByteArray)).toList=[]:=by rw [ByteArray.toList_eq]
 rw [e0,beq_nil,beq_nil];simp only [BEq.rfl,Bool.true_and];cases x.f3.f0==0<;>cases x.f3.f1==0<;>cases x.f3.f2.toList.isEmpty<;>cases x.f2.toList.isEmpty<;>rfl
def memB (s:ByteArray) (L:List ByteArray):Bool:=L.any fun x=>s.toList==x.toList
theorem l2Is_loop (s:ByteArray) (L:List ByteArray) (hl:L.length≤9223372036854775807):∀i,i≤L.length→Ev (fun k=>spec_l2Is.l0 k s L (L.length:Int) (i:Int)) (memB s (L.drop i)):=by
 refine up_ind ?_ ?_
 ·rw [List.drop_length];refine Ev.step (fun k=>by simp only [spec_l2Is.l0];exact rfl) ?_;exact Ev.ifF (by omega) (Ev.now _)
 ·intro i hi ih;rw [drop_getD ByteArray.empty hi,memB,List.any_cons];have hrd:rdOf ByteArray.empty L (i:Int)=L.getD i ByteArray.empty:=by simp [rdOf]
  refine Ev.step (fun k=>by simp only [spec_l2Is.l0,wrap_succ hi hl,hrd];exact rfl) ?_;refine Ev.ifT (by omega) (Ev.ifT (by omega) (Ev.ifT (by omega) ?_));refine Ev.ite (fun c=>?_) (fun c=>?_)
  ·rw [beq_iff_eq.2 c,Bool.true_or];exact Ev.now _
  ·rw [beq_eq_false_iff_ne.2 c,Bool.false_or];exact ih
theorem l2Is_some (s:ByteArray) (L:List ByteArray) (hl:L.length≤9223372036854775807):Ev (fun k=>spec_l2Is.f k s L) (memB s L):=by
 refine Ev.congr (fun k=>by unfold spec_l2Is.f;exact rfl) ?_;have:=l2Is_loop s L hl 0 (Nat.zero_le _)
 rw [List.drop_zero] at this;exact this
theorem arith_byte:∀n:Fin 256,decide (0≤Lib.indexByte [43,45,42,47,37] n.val.toUInt8)=([n.val.toUInt8]==[43] || ([n.val.toUInt8]==[45] || ([n.val.toUInt8]==[42] || ([n.val.toUInt8]==[47] || [n.val.toUInt8]==([37]:List UInt8))))):=by
 decide +kernel
theorem ariths_some (c:Int) (h:okByte c):∃L,spec_l2Ariths.f=some L∧Ev (fun k=>spec_l2Is.f k (strOfNums [c]) L) (arithB c):=by
 refine ⟨_,rfl,?_⟩;refine Ev.as (l2Is_some _ _ (by simp)) ?_;obtain ⟨n,rfl⟩:=Int.eq_ofNat_of_zero_le h.1;have hn:n<256:=by have:=h.2;omega
 have e:=arith_byte ⟨n,hn⟩;unfold arithB arIdx
 simp only [Int.toNat_natCast] at e ⊢;rw [e]
 have es:(strOfNums [(n:Int)]).toList=[n.toUInt8]:=by
  rw [ByteArray.toList_eq];simp [strOfNums]
 simp only [memB,List.any_cons,List.any_nil,es];simp [ByteArray.toList_eq]
end Go.Proofs.YtejjlkbbnhpbdaaGreat.Pure
namespace Go.Proofs.YtejjlkbbnhpbdaaGreat.Pure
open Go.RowKit Go.Proofs.YtejjlkbbnhpbdaaGreat.P Go.Proofs.YtejjlkbbnhpbdaaGreatW.PrintWords Go.Proofs.YtejjlkbbnhpbdaaGreatW.PrintLast Go.Proofs.YtejjlkbbnhpbdaaGreatX
set_option linter.unusedVariables false
set_option linter.unusedSimpArgs false
theorem goodExpr_ev {es:List S106} {i:Nat} {fs ds:List Int} (h:TInv es i fs ds) (hi:i<es.length) (h60:es.length≤60) (hb:okByte (exA es i).f1):
  ∃g fs' ds',Ev (fun k=>spec_l2GoodExpr.f k es (i:Int)) g∧impl_trees_grow.f es fs ds=some (g,fs',ds')∧(g=true→TInv es (i+1) fs' ds'):=by
 have hl:=h.lf;have hd:=h.ld;have hz:=l2Zero_some (exA es i).f3;have hv:=l1GoodVal_some (exA es i).f3;have hs:=l1GoodSym_some (exA es i).f2
 have hgrow:∀r,(fun e:S106=>
   if e.f0=0 then some (onlyC e&&goodValueB e.f3,fs++[(fs.length:Int)],ds++[0])
   else if e.f0=1 then some (onlyV e&&goodSymB e.f2,fs++[(fs.length:Int)],ds++[0])
   else if e.f0=2 then
    if onlyO e=true∧arithB e.f1=true∧e.f5=(fs.length:Int)-1∧0≤e.f5∧0≤e.f4 then
     if 0≤rd fs e.f5∧rd fs e.f5≤64 then
      if e.f4=rd fs e.f5-1 then
       if e.f4<(fs.length:Int)∧0≤rd ds e.f4∧rd ds e.f4≤64∧0≤rd ds e.f5∧rd ds e.f5≤64 then
        some (decide (1+mx (rd ds e.f4) (rd ds e.f5)≤20),fs++[rd fs e.f4],ds++[1+mx (rd ds e.f4) (rd ds e.f5)])
       else none
      else some (false,fs++[(fs.length:Int)],ds++[0])
     else none
    else some (false,fs++[(fs.length:Int)],ds++[0])
   else some (false,fs++[(fs.length:Int)],ds++[0])) (exA es i)=some r→impl_trees_grow.f es fs ds=some r:=by
  intro r hr;unfold impl_trees_grow.f
  rw [if_pos ⟨h60,by omega,by omega⟩,hl,rdE];rw [hl] at hr;exact hr
 have hj:∀r,Ev (fun k=>spec_l2GoodExpr.j0 k es (i:Int) (leafB (exA es i)) (exA es i).f0 (exA es i).f1 (exA es i).f2 (exA es i).f3.f0 (exA es i).f3.f1 (exA es i).f3.f2 (exA es i).f4 (exA es i).f5) r→Ev (fun k=>spec_l2GoodExpr.f k es (i:Int)) r:=by
  intro r hr;refine Ev.congr (fun k=>by unfold spec_l2GoodExpr.f;rw [rdE]) ?_;refine Ev.ifT (by omega) (Ev.ifT (by omega) ?_);unfold leafB at hr
  refine Ev.ite (fun c=>?_) (fun c=>?_)
  ·rw [beq_iff_eq.2 c,Bool.true_and] at hr;refine Ev.ite (fun c=>?_) (fun c=>?_)
   ·rw [beq_iff_eq.2 c,Bool.true_and] at hr;exact hr
   ·rw [beq_eq_false_iff_ne.2 c,Bool.false_and] at hr;exact hr
  ·rw [beq_eq_false_iff_ne.2 c,Bool.false_and] at hr;exact hr
 by_cases k0:(exA es i).f0=0
 ·refine ⟨_,_,_,hj _ ?_,hgrow _ (if_pos k0),fun _=>?_⟩
  ·refine Ev.step (fun k=>by simp only [spec_l2GoodExpr.j0];exact rfl) ?_;refine Ev.ifT k0 ?_;rw [onlyC_eq _ k0];cases hL:leafB (exA es i) with
   | false=>exact Ev.ifF (by simp) (Ev.now _)
   | true=>
    refine Ev.ifT (by trivial) ?_;refine Ev.ite (fun c=>?_) (fun c=>?_)
    ·rw [toList_nil_iff] at c;rw [c];exact Ev.bind hv (Ev.now _)
    ·rw [toList_nil_iff,Bool.not_eq_true] at c;rw [c];exact Ev.now _
  ·rw [hl];exact h.snoc _ _ (by omega) (by omega) (by omega) (by omega) (Or.inl ⟨by omega,rfl,rfl⟩)
 by_cases k1:(exA es i).f0=1
 ·refine ⟨_,_,_,hj _ ?_,hgrow _ ((if_neg k0).trans (if_pos k1)),fun _=>?_⟩
  ·refine Ev.step (fun k=>by simp only [spec_l2GoodExpr.j0];exact rfl) ?_;refine Ev.ifF k0 (Ev.ifT k1 ?_);rw [onlyV_eq _ k1];cases hL:leafB (exA es i) with
   | false=>exact Ev.ifF (by simp) (Ev.now _)
   | true=>
    refine Ev.ifT (by trivial) (Ev.bind hs ?_);refine Ev.ite (fun c=>?_) (fun c=>?_)
    ·rw [c,Bool.and_true,Bool.true_and];exact Ev.bindE hz (Ev.now _)
    ·rw [Bool.not_eq_true] at c;rw [c,Bool.and_false];exact Ev.now _
  ·rw [hl];exact h.snoc _ _ (by omega) (by omega) (by omega) (by omega) (Or.inl ⟨by omega,rfl,rfl⟩)
 by_cases k2:(exA es i).f0=2
 rotate_left
 ·refine ⟨_,_,_,hj _ ?_,hgrow _ ((if_neg k0).trans ((if_neg k1).trans (if_neg k2))),fun e=>by cases e⟩;refine Ev.step (fun k=>by simp only [spec_l2GoodExpr.j0];exact rfl) ?_;exact Ev.ifF k0 (Ev.ifF k1 (Ev.ifF k2 (Ev.now _)))
 obtain ⟨L,hL,hA⟩:=ariths_some _ hb;have honly:=onlyO_eq _ k2;have hgrow2:=fun r hr=>hgrow r ((if_neg k0).trans ((if_neg k1).trans ((if_pos k2).trans hr)))
 clear hgrow
 have hj1:∀b r,(b=true→r=false)→(b=false→Ev (fun k=>(spec_l2First.f k es (exA es i).f5).bind fun t168=>(if (exA es i).f4=(wrap64 (t168-1)) then ((spec_l2Depth.f k es (i:Int)).bind fun t169=>(some (decide (t169≤20)))) else (some false))) r)→
   Ev (fun k=>spec_l2GoodExpr.j1 k es (i:Int) b (exA es i).f0 (exA es i).f1 (exA es i).f2 (exA es i).f3.f0 (exA es i).f3.f1 (exA es i).f3.f2 (exA es i).f4 (exA es i).f5) r:=by
  intro b r h1 h2;refine Ev.step (fun k=>by simp only [spec_l2GoodExpr.j1];exact rfl) ?_;cases b with
  | true=>exact Ev.ifT (by trivial) (Ev.as (Ev.now _) (h1 rfl).symm)
  | false=>exact Ev.ifF (by simp) (h2 rfl)
 by_cases o1:onlyO (exA es i)=true∧arithB (exA es i).f1=true∧(exA es i).f5=(fs.length:Int)-1∧0≤(exA es i).f5∧0≤(exA es i).f4
 rotate_left
 ·
  refine ⟨_,_,_,hj _ ?_,hgrow2 _ (if_neg o1),fun e=>by cases e⟩;refine Ev.step (fun k=>by simp only [spec_l2GoodExpr.j0];exact rfl) ?_;refine Ev.ifF k0 (Ev.ifF k1 (Ev.ifT k2 ?_));refine Ev.bindE hL (Ev.bind hA ?_);have bad:Ev (fun k=>spec_l2GoodExpr.j1 k es (i:Int) true (exA es i).f0 (exA es i).f1 (exA es i).f2 (exA es i).f3.f0 (exA es i).f3.f1 (exA es i).f3.f2 (exA es i).f4 (exA es i).f5) false:=hj1 _ _ (fun _=>rfl) (fun e=>by cases e)
  refine Ev.ite (fun c1=>?_) (fun _=>bad);refine Ev.ite (fun c2=>?_) (fun _=>bad);refine Ev.bindE hz ?_;refine Ev.ite (fun c3=>?_) (fun _=>bad);have hw:wrap64 ((i:Int)-1)=(fs.length:Int)-1:=by unfold wrap64;omega
  rw [hw];refine Ev.ite (fun c4=>?_) (fun _=>bad);refine Ev.ite (fun c5=>bad) (fun c5=>?_);refine hj1 _ _ (fun _=>rfl) (fun e=>?_);rw [toList_nil_iff] at c2;exact absurd ⟨by rw [honly,c2,c3];rfl,c1,c4,by omega,by simpa using e⟩ o1
 have o2:=o1;obtain ⟨p1,p2,p3,p4,p5⟩:=o2;rw [honly,Bool.and_eq_true] at p1;obtain ⟨b,hb5⟩:=Int.eq_ofNat_of_zero_le p4;have hbi:b<i:=by omega
 have hbb:=h.at_ b hbi;have hrb:rd fs (exA es i).f5=fs.getD b 0:=by rw [hb5];simp [rd]
 have hg1:0≤rd fs (exA es i).f5∧rd fs (exA es i).f5≤64:=by rw [hrb];omega
 have hF:=first_ev h (by omega) b hbi
 have hspec:∀r,Ev (fun k=>(if (exA es i).f4=(fs.getD b 0-1) then ((spec_l2Depth.f k es (i:Int)).bind fun t169=>(some (decide (t169≤20)))) else (some false))) r→Ev (fun k=>spec_l2GoodExpr.f k es (i:Int)) r:=by
  intro r hr;refine hj _ ?_;refine Ev.step (fun k=>by simp only [spec_l2GoodExpr.j0];exact rfl) ?_;refine Ev.ifF k0 (Ev.ifF k1 (Ev.ifT k2 ?_));refine Ev.bindE hL (Ev.bind hA ?_);refine Ev.ifT p2 (Ev.ifT ((toList_nil_iff _).2 p1.1) (Ev.bindE hz (Ev.ifT p1.2 ?_)));have hw:wrap64 ((i:Int)-1)=(fs.length:Int)-1:=by unfold wrap64;omega
  rw [hw];refine Ev.ifT p3 (Ev.ifF (by omega) ?_);refine hj1 _ _ (fun e=>absurd (of_decide_eq_true e) (by omega)) (fun _=>?_);rw [hb5];refine Ev.bind hF ?_;rw [show wrap64 (fs.getD b 0-1)=fs.getD b 0-1 by unfold wrap64;omega];exact hr
 by_cases a3:(exA es i).f4=rd fs (exA es i).f5-1
 rotate_left
 ·refine ⟨_,_,_,hspec _ ?_,hgrow2 _ ((if_pos o1).trans ((if_pos hg1).trans (if_neg a3))),fun e=>by cases e⟩;rw [hrb] at a3;exact Ev.ifF a3 (Ev.now _)
 obtain ⟨a,ha4⟩:=Int.eq_ofNat_of_zero_le p5;have hai:a<i:=by rw [hrb] at a3;omega
 have haa:=h.at_ a hai;have hra:rd fs (exA es i).f4=fs.getD a 0:=by rw [ha4];simp [rd]
 have hda:rd ds (exA es i).f4=ds.getD a 0:=by rw [ha4];simp [rd]
 have hdb:rd ds (exA es i).f5=ds.getD b 0:=by rw [hb5];simp [rd]
 have hg2:(exA es i).f4<(fs.length:Int)∧0≤rd ds (exA es i).f4∧rd ds (exA es i).f4≤64∧0≤rd ds (exA es i).f5∧rd ds (exA es i).f5≤64:=by
  rw [hda,hdb];omega
 refine ⟨_,_,_,hspec _ ?_,hgrow2 _ ((if_pos o1).trans ((if_pos hg1).trans ((if_pos a3).trans (if_pos hg2)))),fun e=>?_⟩
 ·rw [hrb] at a3;refine Ev.ifT a3 ?_;refine Ev.bind (depth_node i a b _ _ hi k2 ha4 hb5 haa.2.2.1 haa.2.2.2.1 hbb.2.2.1 hbb.2.2.2.1 (depth_ev h (by omega) a hai) (depth_ev h (by omega) b hbi)) ?_;rw [hda,hdb];exact Ev.now _
 ·have e2:=of_decide_eq_true e;rw [hda,hdb] at e2;rw [hra,hda,hdb];have h0:=mx_ge0 haa.2.2.1 hbb.2.2.1;exact h.snoc _ _ haa.1 (by omega) (by omega) e2 (Or.inr ⟨k2,a,b,hai,hbi,ha4,hb5,rfl,rfl⟩)
theorem shapeE {es:List S106} (h60:es.length≤60) (hb:∀e,e∈es→okByte e.f1):∀m i,m+i=es.length→∀fs ds,TInv es i fs ds→
  ∃v fs' ds',Ev (fun k=>spec_l2Shape.e k es m i) v∧sf_e es m fs ds=some (v,fs',ds')∧(v=-1∧TInv es es.length fs' ds'∨0≤v):=by
 intro m;induction m with
 | zero=>
  intro i hm fs ds h;refine ⟨-1,fs,ds,Ev.now _,rfl,Or.inl ⟨rfl,?_⟩⟩;rw [show es.length=i by omega];exact h
 | succ m ih=>
  intro i hm fs ds h;have hi:i<es.length:=by omega
  obtain ⟨g,fs1,ds1,h1,h2,h3⟩:=goodExpr_ev h hi h60 (hb _ (by unfold exA;exact getD_in _ hi));cases g with
  | true=>
   obtain ⟨v,fs2,ds2,h4,h5,h6⟩:=ih (i+1) (by omega) fs1 ds1 (h3 rfl);refine ⟨v,fs2,ds2,?_,?_,h6⟩
   ·refine Ev.congr (fun k=>by unfold spec_l2Shape.e;exact rfl) ?_;exact Ev.bind h1 (Ev.ifT (by trivial) h4)
   ·unfold sf_e
    rw [h2];simp only [Option.bind_some];rw [if_pos (by trivial)];exact h5
  | false=>
   refine ⟨(i:Int)+1,fs1,ds1,?_,?_,Or.inr (by omega)⟩
   ·refine Ev.congr (fun k=>by unfold spec_l2Shape.e;exact rfl) ?_;exact Ev.bind h1 (Ev.ifF (by simp) (Ev.now _))
   ·unfold sf_e
    rw [h2];simp only [Option.bind_some];rw [if_neg (by simp),h.lf]
inductive Chain (fs:List Int):List Int→Int→Int→Prop
 | nil (n:Int):Chain fs [] n n
 | cons (x:Nat) (xs:List Int) (n n':Int) (hx:x<fs.length) (hf:fs.getD x 0=n) (h:Chain fs xs ((x:Int)+1) n'):Chain fs ((x:Int)::xs) n n'
theorem actG {es:List S106} {fs ds:List Int} (h:TInv es es.length fs ds) (h60:es.length≤60):∀(xs:List Int) (n:Int),∃g n',Ev (fun k=>spec_l2GoodAct.g k es xs n) (g,n')∧impl_Action_good.g fs xs n=some (g,n')∧(g=true→Chain fs xs n n'):=by
 intro xs;induction xs with
 | nil=>intro n;exact ⟨true,n,Ev.now _,rfl,fun _=>Chain.nil n⟩
 | cons x xs ih=>
  intro n;have hl:=h.lf;by_cases c:0≤x∧x<(es.length:Int)
  ·obtain ⟨a,rfl⟩:=Int.eq_ofNat_of_zero_le c.1;have ha:a<es.length:=by omega
   have hF:=first_ev h (Nat.le_refl _) a ha;have hr:rd fs (a:Int)=fs.getD a 0:=by simp [rd]
   by_cases e:fs.getD a 0=n
   ·obtain ⟨g,n',h1,h2,h3⟩:=ih ((a:Int)+1);refine ⟨g,n',?_,?_,fun hg=>Chain.cons a xs n n' (by omega) e (h3 hg)⟩
    ·refine Ev.congr (fun k=>by unfold spec_l2GoodAct.g;exact rfl) ?_;refine Ev.ifT c (Ev.bind hF (Ev.ifT e ?_));rw [show wrap64 ((a:Int)+1)=(a:Int)+1 by unfold wrap64;omega];exact h1
    ·unfold impl_Action_good.g
     rw [if_pos ⟨c.1,by omega⟩,hr,if_pos e];exact h2
   ·refine ⟨false,n,?_,?_,fun e=>by cases e⟩
    ·refine Ev.congr (fun k=>by unfold spec_l2GoodAct.g;exact rfl) ?_;exact Ev.ifT c (Ev.bind hF (Ev.ifF e (Ev.now _)))
    ·unfold impl_Action_good.g
     rw [if_pos ⟨c.1,by omega⟩,hr,if_neg e]
  ·refine ⟨false,n,?_,?_,fun e=>by cases e⟩
   ·refine Ev.congr (fun k=>by unfold spec_l2GoodAct.g;exact rfl) ?_;exact Ev.ifF c (Ev.now _)
   ·unfold impl_Action_good.g
    rw [if_neg (by rw [hl];exact c)]
theorem chain_nil {fs:List Int} {n n':Int} (h:Chain fs [] n n'):n'=n:=by cases h;rfl
def ActOK (a:S108):Prop:=a.f3.length≤6∧(a.f0=1∧goodClsB a.f2=true∧a.f1=0∨a.f2.toList=[]∧(a.f0=2∧a.f3=[]∨a.f0=3∨a.f0=4∧a.f1=0∧a.f3=[])∧-1000000≤a.f1∧a.f1≤1000000)
theorem actF {es:List S106} {fs ds:List Int} (h:TInv es es.length fs ds) (h60:es.length≤60) (a:S108) (n:Int):∃g n',Ev (fun k=>spec_l2GoodAct.f k es a.f0 a.f1 a.f2 a.f3 n) (g,n')∧impl_Action_good.f fs a.f0 a.f1 a.f2 a.f3 n=some (g,n')∧(g=true→ActOK a∧Chain fs a.f3 n n'):=by
 obtain ⟨kd,K,cls,xs⟩:=a;dsimp only
 obtain ⟨g,n',h1,h2,h3⟩:=actG h h60 xs n;by_cases k1:kd=1
 ·subst k1;by_cases c6:6<xs.length
  ·refine ⟨false,n,?_,?_,fun e=>by cases e⟩
   ·refine Ev.congr (fun k=>by unfold spec_l2GoodAct.f;exact rfl) ?_;exact Ev.ifT rfl (Ev.ifT c6 (Ev.now _))
   ·unfold impl_Action_good.f
    rw [if_pos rfl,if_pos c6];repeat' split
    all_goals rfl
  cases hc:goodClsB cls with
  | false=>
   refine ⟨false,n,?_,?_,fun e=>by cases e⟩
   ·refine Ev.congr (fun k=>by unfold spec_l2GoodAct.f;exact rfl) ?_;refine Ev.ifT rfl (Ev.ifF c6 (Ev.bind (l2GoodCls_some cls) ?_));rw [hc];exact Ev.ifF (by simp) (Ev.now _)
   ·unfold impl_Action_good.f
    rw [if_pos rfl,hc,if_neg (by simp)]
  | true=>
   by_cases c0:K=0
   ·refine ⟨g,n',?_,?_,fun hg=>⟨⟨by dsimp only;omega,Or.inl ⟨rfl,hc,c0⟩⟩,h3 hg⟩⟩
    ·refine Ev.congr (fun k=>by unfold spec_l2GoodAct.f;exact rfl) ?_;refine Ev.ifT rfl (Ev.ifF c6 (Ev.bind (l2GoodCls_some cls) ?_));rw [hc];exact Ev.ifT (by trivial) (Ev.ifT c0 h1)
    ·unfold impl_Action_good.f
     rw [if_pos rfl,hc,if_pos (by trivial),if_pos c0,if_neg c6];exact h2
   ·refine ⟨false,n,?_,?_,fun e=>by cases e⟩
    ·refine Ev.congr (fun k=>by unfold spec_l2GoodAct.f;exact rfl) ?_;refine Ev.ifT rfl (Ev.ifF c6 (Ev.bind (l2GoodCls_some cls) ?_));rw [hc];exact Ev.ifT (by trivial) (Ev.ifF c0 (Ev.now _))
    ·unfold impl_Action_good.f
     rw [if_pos rfl,hc,if_pos (by trivial),if_neg c0]
 by_cases k2:kd=2
 ·subst k2
  have sp:∀r,Ev (fun _=>if xs=[] then (if cls.toList=[] then (if K < -1000000 then some (false,n) else if 1000000<K then some (false,n) else some (true,n)) else some (false,n)) else some (false,n)) r→Ev (fun k=>spec_l2GoodAct.f k es 2 K cls xs n) r:=by
   intro r hr;refine Ev.congr (fun k=>by unfold spec_l2GoodAct.f;exact rfl) ?_;exact Ev.ifF (by decide) (Ev.ifT rfl hr)
  unfold impl_Action_good.f
  rw [if_neg (by decide),if_pos rfl];by_cases c1:xs=[]
  ·by_cases c2:cls.toList=[]
   ·by_cases c3:K < -1000000
    ·exact ⟨false,n,sp _ (Ev.ifT c1 (Ev.ifT c2 (Ev.ifT c3 (Ev.now _)))),by rw [if_pos c2,if_pos c3],fun e=>by cases e⟩
    by_cases c4:1000000<K
    ·exact ⟨false,n,sp _ (Ev.ifT c1 (Ev.ifT c2 (Ev.ifF c3 (Ev.ifT c4 (Ev.now _))))),by rw [if_pos c2,if_neg c3,if_pos c4],fun e=>by cases e⟩
    ·refine ⟨true,n,sp _ (Ev.ifT c1 (Ev.ifT c2 (Ev.ifF c3 (Ev.ifF c4 (Ev.now _))))),by rw [if_pos c2,if_neg c3,if_neg c4,if_pos c1],fun _=>⟨⟨by rw [c1];simp,Or.inr ⟨c2,Or.inl ⟨rfl,c1⟩,by dsimp only;omega,by dsimp only;omega⟩⟩,?_⟩⟩;rw [c1];exact Chain.nil n
   ·exact ⟨false,n,sp _ (Ev.ifT c1 (Ev.ifF c2 (Ev.now _))),by rw [if_neg c2],fun e=>by cases e⟩
  ·refine ⟨false,n,sp _ (Ev.ifF c1 (Ev.now _)),?_,fun e=>by cases e⟩;rw [if_neg c1];repeat' split
   all_goals rfl
 by_cases k3:kd=3
 ·subst k3
  have sp:∀r,Ev (fun k=>if 6<xs.length then some (false,n) else if cls.toList=[] then (if K < -1000000 then some (false,n) else if 1000000<K then some (false,n) else spec_l2GoodAct.g k es xs n) else some (false,n)) r→Ev (fun k=>spec_l2GoodAct.f k es 3 K cls xs n) r:=by
   intro r hr;refine Ev.congr (fun k=>by unfold spec_l2GoodAct.f;exact rfl) ?_;exact Ev.ifF (by decide) (Ev.ifF (by decide) (Ev.ifT rfl hr))
  unfold impl_Action_good.f
  rw [if_neg (by decide),if_neg (by decide),if_pos rfl];by_cases c6:6<xs.length
  ·refine ⟨false,n,sp _ (Ev.ifT c6 (Ev.now _)),?_,fun e=>by cases e⟩;rw [if_pos c6];repeat' split
   all_goals rfl
  by_cases c2:cls.toList=[]
  ·by_cases c3:K < -1000000
   ·exact ⟨false,n,sp _ (Ev.ifF c6 (Ev.ifT c2 (Ev.ifT c3 (Ev.now _)))),by rw [if_pos c2,if_pos c3],fun e=>by cases e⟩
   by_cases c4:1000000<K
   ·exact ⟨false,n,sp _ (Ev.ifF c6 (Ev.ifT c2 (Ev.ifF c3 (Ev.ifT c4 (Ev.now _))))),by rw [if_pos c2,if_neg c3,if_pos c4],fun e=>by cases e⟩
   ·refine ⟨g,n',sp _ (Ev.ifF c6 (Ev.ifT c2 (Ev.ifF c3 (Ev.ifF c4 h1)))),?_,fun hg=>⟨⟨by dsimp only;omega,Or.inr ⟨c2,Or.inr (Or.inl rfl),by dsimp only;omega,by dsimp only;omega⟩⟩,h3 hg⟩⟩;rw [if_pos c2,if_neg c3,if_neg c4,if_neg c6];exact h2
  ·exact ⟨false,n,sp _ (Ev.ifF c6 (Ev.ifF c2 (Ev.now _))),by rw [if_neg c2],fun e=>by cases e⟩
 by_cases k4:kd=4
 ·subst k4
  have sp:∀r,Ev (fun _=>if xs=[] then (if cls.toList=[] then (if K=0 then some (true,n) else some (false,n)) else some (false,n)) else some (false,n)) r→Ev (fun k=>spec_l2GoodAct.f k es 4 K cls xs n) r:=by
   intro r hr;refine Ev.congr (fun k=>by unfold spec_l2GoodAct.f;exact rfl) ?_;exact Ev.ifF (by decide) (Ev.ifF (by decide) (Ev.ifF (by decide) (Ev.ifT rfl hr)))
  unfold impl_Action_good.f
  rw [if_neg (by decide),if_neg (by decide),if_neg (by decide),if_pos rfl];by_cases c1:xs=[]
  ·by_cases c2:cls.toList=[]
   ·by_cases c3:K=0
    ·refine ⟨true,n,sp _ (Ev.ifT c1 (Ev.ifT c2 (Ev.ifT c3 (Ev.now _)))),by rw [if_pos c2,if_pos c3,if_pos c1],fun _=>⟨⟨by rw [c1];simp,Or.inr ⟨c2,Or.inr (Or.inr ⟨rfl,c3,c1⟩),by dsimp only;omega,by dsimp only;omega⟩⟩,?_⟩⟩;rw [c1];exact Chain.nil n
    ·exact ⟨false,n,sp _ (Ev.ifT c1 (Ev.ifT c2 (Ev.ifF c3 (Ev.now _)))),by rw [if_pos c2,if_neg c3],fun e=>by cases e⟩
   ·exact ⟨false,n,sp _ (Ev.ifT c1 (Ev.ifF c2 (Ev.now _))),by rw [if_neg c2],fun e=>by cases e⟩
  ·refine ⟨false,n,sp _ (Ev.ifF c1 (Ev.now _)),?_,fun e=>by cases e⟩;rw [if_neg c1];repeat' split
   all_goals rfl
 ·refine ⟨false,n,?_,?_,fun e=>by cases e⟩
  ·refine Ev.congr (fun k=>by unfold spec_l2GoodAct.f;exact rfl) ?_;exact Ev.ifF k1 (Ev.ifF k2 (Ev.ifF k3 (Ev.ifF k4 (Ev.now _))))
  ·unfold impl_Action_good.f
   rw [if_neg k1,if_neg k2,if_neg k3,if_neg k4]
inductive Chains (fs:List Int):List S108→Int→Int→Prop
 | nil (n:Int):Chains fs [] n n
 | cons (a:S108) (as_:List S108) (n m n':Int) (ha:ActOK a) (h1:Chain fs a.f3 n m) (h2:Chains fs as_ m n'):Chains fs (a::as_) n n'
theorem shapeA {es:List S106} {fs ds:List Int} (h:TInv es es.length fs ds) (h60:es.length≤60):∀(as_:List S108) (i:Nat) (n:Int),∃v n',Ev (fun k=>spec_l2Shape.a k es as_ i n) (v,n')∧sf_a fs as_ i n=some (v,n')∧(v=-1∧Chains fs as_ n n'∨0≤v):=by
 intro as_;induction as_ with
 | nil=>intro i n;exact ⟨-1,n,Ev.now _,rfl,Or.inl ⟨rfl,Chains.nil n⟩⟩
 | cons a as_ ih=>
  intro i n;obtain ⟨g,m,h1,h2,h3⟩:=actF h h60 a n;cases g with
  | true=>
   obtain ⟨v,n',h4,h5,h6⟩:=ih (i+1) m;refine ⟨v,n',?_,?_,h6.imp (fun q=>⟨q.1,Chains.cons a as_ n m n' (h3 rfl).1 (h3 rfl).2 q.2⟩) id⟩
   ·refine Ev.congr (fun k=>by unfold spec_l2Shape.a;exact rfl) ?_;exact Ev.bind h1 (Ev.ifT (by trivial) h4)
   ·unfold sf_a
    rw [h2];simp only [Option.bind_some];rw [if_pos (by trivial)];exact h5
  | false=>
   refine ⟨(i:Int)+1,m,?_,?_,Or.inr (by omega)⟩
   ·refine Ev.congr (fun k=>by unfold spec_l2Shape.a;exact rfl) ?_;exact Ev.bind h1 (Ev.ifF (by simp) (Ev.now _))
   ·unfold sf_a
    rw [h2];simp only [Option.bind_some];rw [if_neg (by simp)]
theorem shapeP:∀(ps:List S101) (i:Nat),Ev (fun k=>spec_l2Shape.p k ps i) (sf_p ps i)∧(sf_p ps i=-1∧(∀p,p∈ps→goodPatB p.f1 p.f2=true)∨0≤sf_p ps i):=by
 intro ps;induction ps with
 | nil=>intro i;exact ⟨Ev.now _,Or.inl ⟨rfl,fun p hp=>by cases hp⟩⟩
 | cons p ps ih=>
  intro i;obtain ⟨h1,h2⟩:=ih (i+1);unfold sf_p
  cases hg:goodPatB p.f1 p.f2 with
  | true=>
   rw [if_pos (by trivial)];refine ⟨?_,h2.imp (fun q=>⟨q.1,fun r hr=>?_⟩) id⟩
   ·refine Ev.congr (fun k=>by unfold spec_l2Shape.p;exact rfl) ?_;refine Ev.bind (l2GoodPat_some _ _ _) ?_;rw [hg];exact Ev.ifT (by trivial) h1
   ·rcases List.mem_cons.1 hr with e|e
    ·rw [e];exact hg
    ·exact q.2 r e
  | false=>
   rw [if_neg (by simp)];refine ⟨?_,Or.inr (by omega)⟩;refine Ev.congr (fun k=>by unfold spec_l2Shape.p;exact rfl) ?_;refine Ev.bind (l2GoodPat_some _ _ _) ?_;rw [hg];exact Ev.ifF (by simp) (Ev.now _)
def ShapeOK (nm:ByteArray) (ps:List S101) (es:List S106) (as_:List S108):Prop:=
 goodSymB nm=true∧ps.length≤6∧as_.length≤8∧es.length≤60∧(∀p,p∈ps→goodPatB p.f1 p.f2=true)∧∃fs ds,TInv es es.length fs ds∧Chains fs as_ 0 (es.length:Int)
theorem shape_both (nm:ByteArray) (sa:Int) (ps:List S101) (es:List S106) (as_:List S108) (hb:∀e,e∈es→okByte e.f1):
  ∃v,Ev (fun k=>spec_l2Shape.f k nm sa ps es as_) v∧impl_Rule_shapeFault.f nm sa ps es as_=some v∧(v=-1∧ShapeOK nm ps es as_∨0≤v):=by
 have start:∀r,Ev (fun k=>if goodSymB nm=true then (if 6<ps.length then some 0 else if 8<as_.length then some 0 else if 60<es.length then some 0 else
  (spec_l2Shape.p k ps 0).bind fun p=>if p=-1 then (spec_l2Shape.e k es es.length 0).bind fun e=>if e=-1 then (spec_l2Shape.a k es as_ 0 0).bind fun a=>if a.1=-1 then (if a.2=(es.length:Int) then some (-1) else some ((as_.length:Int)+1)) else some a.1 else some e else some p) else some 0) r→Ev (fun k=>spec_l2Shape.f k nm sa ps es as_) r:=by
  intro r hr;refine Ev.congr (fun k=>by unfold spec_l2Shape.f;exact rfl) ?_;exact Ev.bind (l1GoodSym_some nm) hr
 unfold impl_Rule_shapeFault.f
 cases hs:goodSymB nm with
 | false=>
  refine ⟨0,start _ ?_,by rw [if_neg (by simp)],Or.inr (by omega)⟩;rw [hs];exact Ev.ifF (by simp) (Ev.now _)
 | true=>
 rw [hs] at start;rw [if_pos (by trivial)];by_cases c1:6<ps.length
 ·exact ⟨0,start _ (Ev.ifT (by trivial) (Ev.ifT c1 (Ev.now _))),by rw [if_pos c1],Or.inr (by omega)⟩
 by_cases c2:8<as_.length
 ·exact ⟨0,start _ (Ev.ifT (by trivial) (Ev.ifF c1 (Ev.ifT c2 (Ev.now _)))),by rw [if_neg c1,if_pos c2],Or.inr (by omega)⟩
 by_cases c3:60<es.length
 ·exact ⟨0,start _ (Ev.ifT (by trivial) (Ev.ifF c1 (Ev.ifF c2 (Ev.ifT c3 (Ev.now _))))),by rw [if_neg c1,if_neg c2,if_pos c3],Or.inr (by omega)⟩
 rw [if_neg c1,if_neg c2,if_neg c3];replace start:=fun r hr=>start r (Ev.ifT (by trivial) (Ev.ifF c1 (Ev.ifF c2 (Ev.ifF c3 hr))))
 obtain ⟨hp1,hp2⟩:=shapeP ps 0;rcases hp2 with ⟨hp2,hp3⟩|hp2
 rotate_left
 ·refine ⟨sf_p ps 0,start _ ?_,by rw [if_neg (by omega)],Or.inr hp2⟩;exact Ev.bind hp1 (Ev.ifF (by omega) (Ev.now _))
 rw [if_pos hp2];obtain ⟨e,fs,ds,he1,he2,he3⟩:=shapeE (by omega) hb es.length 0 (by omega) [] [] ⟨rfl,rfl,fun j hj=>absurd hj (Nat.not_lt_zero _)⟩;rw [he2];simp only [Option.bind_some];rcases he3 with ⟨he3,hT⟩|he3
 rotate_left
 ·refine ⟨e,start _ ?_,by rw [if_neg (by omega)],Or.inr he3⟩;exact Ev.bind hp1 (Ev.ifT hp2 (Ev.bind he1 (Ev.ifF (by omega) (Ev.now _))))
 rw [if_pos he3];obtain ⟨a,n,ha1,ha2,ha3⟩:=shapeA hT (by omega) as_ 0 0;rw [ha2];simp only [Option.bind_some];rcases ha3 with ⟨ha3,hC⟩|ha3
 rotate_left
 ·refine ⟨a,start _ ?_,by rw [if_neg (by omega)],Or.inr ha3⟩;exact Ev.bind hp1 (Ev.ifT hp2 (Ev.bind he1 (Ev.ifT he3 (Ev.bind ha1 (Ev.ifF (by dsimp only;omega) (Ev.now _))))))
 rw [if_pos ha3];by_cases hn:n=(es.length:Int)
 ·refine ⟨-1,start _ ?_,by rw [if_pos hn],Or.inl ⟨rfl,hs,by omega,by omega,by omega,hp3,fs,ds,hT,by rw [←hn];exact hC⟩⟩;exact Ev.bind hp1 (Ev.ifT hp2 (Ev.bind he1 (Ev.ifT he3 (Ev.bind ha1 (Ev.ifT (by exact ha3) (Ev.ifT (by exact hn) (Ev.now _)))))))
 ·refine ⟨(as_.length:Int)+1,start _ ?_,by rw [if_neg hn],Or.inr (by omega)⟩;exact Ev.bind hp1 (Ev.ifT hp2 (Ev.bind he1 (Ev.ifT he3 (Ev.bind ha1 (Ev.ifT (by exact ha3) (Ev.ifF (by exact hn) (Ev.now _)))))))
end Go.Proofs.YtejjlkbbnhpbdaaGreat.Pure
namespace Go.Proofs.YtejjlkbbnhpbdaaGreat.Pure
open Go.RowKit Go.Proofs.YtejjlkbbnhpbdaaGreat.P Go.Proofs.YtejjlkbbnhpbdaaGreatW.PrintWords Go.Proofs.YtejjlkbbnhpbdaaGreatW.PrintLast Go.Proofs.YtejjlkbbnhpbdaaGreatX
set_option linter.unusedVariables false
set_option linter.unusedSimpArgs false
theorem memB_eq (s:ByteArray) (L:List ByteArray):memB s L=memS s L:=by
 induction L with
 | nil=>rfl
 | cons u r ih=>
  have e:(s.toList==u.toList)=(u.toList==s.toList):=by
   rw [Bool.eq_iff_iff,beq_iff_eq,beq_iff_eq];exact eq_comm
  show ((s.toList==u.toList) || memB s r)=((u.toList==s.toList) || memS s r);rw [e,ih]
theorem memS_app (s:ByteArray):∀a b:List ByteArray,memS s (a++b)=(memS s a || memS s b)
 | [],b=>by simp [memS]
 | x::a,b=>by simp [memS,memS_app s a b,Bool.or_assoc]
theorem memS_snoc (s x:ByteArray) (a:List ByteArray):memS s (a++[x])=(memS s a || (x.toList==s.toList)):=by
 rw [memS_app];simp [memS]
theorem wrap2 (p m:Nat) (hp:p≤6) (hm:m<8):wrap64 (wrap64 ((p:Int)+(m:Int))+1)=(p:Int)+(m:Int)+1:=by
 have e1:wrap64 ((p:Int)+(m:Int))=(p:Int)+(m:Int):=by unfold wrap64;omega
 rw [e1];unfold wrap64;omega
section
variable (nm:ByteArray) (sa:Int) (ps:List S101) (es:List S106) (as_:List S108)
theorem scopeT (i:Nat) (hi:i<6) (kn:List ByteArray) (ts:List S134) (ts2:List S134) (neg:Bool) (cls:ByteArray) (K:List ByteArray) (hts:ts.length≤6) (hsz:∀t,t∈ts→t.f2.size≤maxLen):
  ∀j,j≤ts.length→∀(H L:List ByteArray),(∀s,memS s H=(memS s K || memS s L))→H.length+(ts.length-j)≤1000→
  ∃y H',sc_t K (ts.drop j) L=some y∧(∀s,memS s H'=(memS s K || memS s y.2))∧H'.length≤H.length+(ts.length-j)∧
   ∀r,(y.1=false→r=(i:Int)+1)→(y.1=true→Ev (fun k=>if neg=true then spec_l2Scope.l0 k kn ps (ps.length:Int) ((i+1:Nat):Int) nm sa ps es as_ else spec_l2Scope.l0 k H' ps (ps.length:Int) ((i+1:Nat):Int) nm sa ps es as_) r)→
    Ev (fun k=>spec_l2Scope.l1 k kn (i:Int) H ps (ps.length:Int) (i:Int) ts (ts.length:Int) (j:Int) nm sa ps es as_ neg cls ts2) r:=by
 refine up_ind ?_ ?_
 ·intro H L hm _;refine ⟨(true,L),H,?_,hm,by omega,?_⟩
  ·rw [List.drop_length];rfl
  ·intro r _ h2;refine Ev.step (fun k=>by simp only [spec_l2Scope.l1,wrap_succ (show i<6 from hi) (show 6≤9223372036854775807 by omega)];exact rfl) ?_;exact Ev.ifF (by omega) (h2 rfl)
 ·intro j hj ih H L hm hb;have hrd:rd_T134 ts (j:Int)=ts.getD j z134:=by simp [rd_T134]
  rw [drop_getD z134 hj];have hs:=hsz _ (getD_in z134 hj);generalize ts.getD j z134=t at *;have go:∀(b:Bool) (H1 L1:List ByteArray) (y:Bool×List ByteArray) (H':List ByteArray) (rest:Nat→Option Int) (r:Int),True:=fun _ _ _ _ _ _ _=>trivial
  clear go;unfold sc_t
  rw [if_pos hs]
  have stepJ:∀(x45:Bool) (r:Int),(x45=true→r=(i:Int)+1)→(x45=false→Ev (fun k=>if t.f0=2 then (if H.length<8796093022208 then spec_l2Scope.l1 k kn (i:Int) (H++[t.f2]) ps (ps.length:Int) (i:Int) ts (ts.length:Int) ((j+1:Nat):Int) nm sa ps es as_ neg cls ts2 else none) else spec_l2Scope.l1 k kn (i:Int) H ps (ps.length:Int) (i:Int) ts (ts.length:Int) ((j+1:Nat):Int) nm sa ps es as_ neg cls ts2) r)→
    Ev (fun k=>spec_l2Scope.j2 k kn (i:Int) H ps (ps.length:Int) (i:Int) ts (ts.length:Int) (j:Int) x45 nm sa ps es as_ neg cls ts2 t.f0 t.f1 t.f2 t.f3.f0 t.f3.f1 t.f3.f2) r:=by
   intro x45 r h1 h2;refine Ev.step (fun k=>by simp only [spec_l2Scope.j2,wrap_succ hj (show ts.length≤9223372036854775807 by omega)];exact rfl) ?_;cases x45 with
   | true=>
    refine Ev.ifT (by trivial) (Ev.as (Ev.now _) ?_);rw [h1 rfl];unfold wrap64;omega
   | false=>exact Ev.ifF (by simp) (h2 rfl)
  have stepL:∀r,Ev (fun k=>if t.f0=3 then (if t.f2.toList=([]:List UInt8) then (spec_l2Scope.j2 k kn (i:Int) H ps (ps.length:Int) (i:Int) ts (ts.length:Int) (j:Int) false nm sa ps es as_ neg cls ts2 t.f0 t.f1 t.f2 t.f3.f0 t.f3.f1 t.f3.f2) else (spec_l2Is.f k t.f2 H).bind fun q=>spec_l2Scope.j2 k kn (i:Int) H ps (ps.length:Int) (i:Int) ts (ts.length:Int) (j:Int) (!q) nm sa ps es as_ neg cls ts2 t.f0 t.f1 t.f2 t.f3.f0 t.f3.f1 t.f3.f2) else spec_l2Scope.j2 k kn (i:Int) H ps (ps.length:Int) (i:Int) ts (ts.length:Int) (j:Int) false nm sa ps es as_ neg cls ts2 t.f0 t.f1 t.f2 t.f3.f0 t.f3.f1 t.f3.f2) r→
    Ev (fun k=>spec_l2Scope.l1 k kn (i:Int) H ps (ps.length:Int) (i:Int) ts (ts.length:Int) (j:Int) nm sa ps es as_ neg cls ts2) r:=by
   intro r hr;refine Ev.step (fun k=>by simp only [spec_l2Scope.l1,hrd];exact rfl) ?_;exact Ev.ifT (by omega) (Ev.ifT (by omega) (Ev.ifT (by omega) hr))
  by_cases k2:t.f0=2
  ·rw [if_neg (by omega),if_pos k2]
   have hm2:∀s,memS s (H++[t.f2])=(memS s K || memS s (t.f2::L)):=by
    intro s;rw [memS_snoc,hm s];simp only [memS];cases memS s K<;>cases memS s L<;>cases (t.f2.toList==s.toList)<;>rfl
   obtain ⟨y,H',h1,h2,h3,h4⟩:=ih (H++[t.f2]) (t.f2::L) hm2 (by simp;omega);refine ⟨y,H',h1,h2,by simp at h3;omega,fun r r1 r2=>stepL r (Ev.ifF (by omega) (stepJ _ _ (fun e=>by cases e) (fun _=>Ev.ifT k2 (Ev.ifT (by omega) (h4 r r1 r2)))))⟩
  ·obtain ⟨y,H',h1,h2,h3,h4⟩:=ih H L hm (by omega)
   have cont:∀r,(y.1=false→r=(i:Int)+1)→(y.1=true→Ev (fun k=>if neg=true then spec_l2Scope.l0 k kn ps (ps.length:Int) ((i+1:Nat):Int) nm sa ps es as_ else spec_l2Scope.l0 k H' ps (ps.length:Int) ((i+1:Nat):Int) nm sa ps es as_) r)→Ev (fun k=>spec_l2Scope.j2 k kn (i:Int) H ps (ps.length:Int) (i:Int) ts (ts.length:Int) (j:Int) false nm sa ps es as_ neg cls ts2 t.f0 t.f1 t.f2 t.f3.f0 t.f3.f1 t.f3.f2) r:=
    fun r r1 r2=>stepJ _ _ (fun e=>by cases e) (fun _=>Ev.ifF k2 (h4 r r1 r2))
   by_cases k3:t.f0=3
   ·cases hemp:t.f2.toList.isEmpty with
    | true=>
     rw [if_neg (fun q=>by have:=q.2.1;cases this),if_neg k2];exact ⟨y,H',h1,h2,by omega,fun r r1 r2=>stepL r (Ev.ifT k3 (Ev.ifT ((toList_nil_iff _).2 hemp) (cont r r1 r2)))⟩
    | false=>
     have hne:¬t.f2.toList=([]:List UInt8):=by rw [toList_nil_iff,hemp];simp
     have his:=l2Is_some t.f2 H (by omega);rw [memB_eq,hm t.f2] at his;cases hk:memS t.f2 K with
     | true=>
      rw [hk,Bool.true_or] at his;rw [if_neg (fun q=>by have:=q.2.2.1;cases this),if_neg k2];exact ⟨y,H',h1,h2,by omega,fun r r1 r2=>stepL r (Ev.ifT k3 (Ev.ifF hne (Ev.bind his (cont r r1 r2))))⟩
     | false=>
      rw [hk,Bool.false_or] at his;cases hl:memS t.f2 L with
      | true=>
       rw [hl] at his;rw [if_neg (fun q=>by have:=q.2.2.2;cases this),if_neg k2];exact ⟨y,H',h1,h2,by omega,fun r r1 r2=>stepL r (Ev.ifT k3 (Ev.ifF hne (Ev.bind his (cont r r1 r2))))⟩
      | false=>
       rw [hl] at his;rw [if_pos ⟨k3,rfl,rfl,rfl⟩];exact ⟨(false,L),H,rfl,hm,by omega,fun r r1 _=>stepL r (Ev.ifT k3 (Ev.ifF hne (Ev.bind his (stepJ _ _ (fun _=>r1 rfl) (fun e=>by cases e)))))⟩
   ·rw [if_neg (fun q=>k3 q.1),if_neg k2];exact ⟨y,H',h1,h2,by omega,fun r r1 r2=>stepL r (Ev.ifF k3 (cont r r1 r2))⟩
theorem scopeP (hps:ps.length≤6) (htl:∀p,p∈ps→p.f2.length≤6∧∀t,t∈p.f2→t.f2.size≤maxLen):∀i,i≤ps.length→∀(kn K:List ByteArray),(∀s,memS s kn=memS s K)→kn.length≤6 * i→
  ∃y kn',sc_p (ps.drop i) i K=some y∧(∀s,memS s kn'=memS s y.2)∧kn'.length≤36∧(y.1=-1∨0≤y.1)∧
   ∀r,(0≤y.1→r=y.1)→(y.1=-1→Ev (fun k=>spec_l2Scope.l2 k kn' as_ (as_.length:Int) 0 nm sa ps es as_) r)→Ev (fun k=>spec_l2Scope.l0 k kn ps (ps.length:Int) (i:Int) nm sa ps es as_) r:=by
 refine up_ind ?_ ?_
 ·intro kn K hm hl;refine ⟨(-1,K),kn,?_,hm,by omega,Or.inl rfl,?_⟩
  ·rw [List.drop_length];rfl
  ·intro r _ h2;refine Ev.step (fun k=>by simp only [spec_l2Scope.l0];exact rfl) ?_;exact Ev.ifF (by omega) (h2 rfl)
 ·intro i hi ih kn K hm hl;have hrd:rd_T101 ps (i:Int)=ps.getD i z101:=by simp [rd_T101]
  rw [drop_getD z101 hi];obtain ⟨ht1,ht2⟩:=htl _ (getD_in z101 hi);generalize ps.getD i z101=p at *
  have hm0:∀s,memS s (([]:List ByteArray)++kn)=(memS s K || memS s []):=by
   intro s;rw [List.nil_append,hm s];simp [memS]
  obtain ⟨y,H',h1,h2,h3,h4⟩:=scopeT nm sa ps es as_ i (by omega) kn p.f2 p.f2 p.f0 p.f1 K ht1 ht2 0 (Nat.zero_le _) (([]:List ByteArray)++kn) [] hm0 (by simp;omega);rw [List.drop_zero] at h1
  have start:∀r,Ev (fun k=>spec_l2Scope.l1 k kn (i:Int) (([]:List ByteArray)++kn) ps (ps.length:Int) (i:Int) p.f2 (p.f2.length:Int) ((0:Nat):Int) nm sa ps es as_ p.f0 p.f1 p.f2) r→Ev (fun k=>spec_l2Scope.l0 k kn ps (ps.length:Int) (i:Int) nm sa ps es as_) r:=by
   intro r hr;refine Ev.step (fun k=>by simp only [spec_l2Scope.l0,hrd];exact rfl) ?_;exact Ev.ifT (by omega) (Ev.ifT (by omega) (Ev.ifT (by omega) (Ev.ifT (by simp;omega) hr)))
  unfold sc_p
  rw [if_pos ht1,h1];simp only [Option.bind_some];obtain ⟨ok,L'⟩:=y;cases ok with
  | false=>
   rw [if_neg (by simp)];refine ⟨((i:Int)+1,K),kn,rfl,hm,by omega,Or.inr (by dsimp only;omega),fun r r1 r2=>start r (h4 r (fun _=>r1 (by dsimp only;omega)) (fun e=>by cases e))⟩
  | true=>
   rw [if_pos (by trivial)];dsimp only at h2 h4
   cases hneg:p.f0 with
   | true=>
    rw [if_pos (by trivial)];obtain ⟨y,kn',g1,g2,g3,g4,g5⟩:=ih kn K hm (by omega);refine ⟨y,kn',g1,g2,g3,g4,fun r r1 r2=>start r (h4 r (fun e=>by cases e) (fun _=>Ev.ifT hneg (g5 r r1 r2)))⟩
   | false=>
    rw [if_neg (by simp)]
    have hm2:∀s,memS s H'=memS s (L'++K):=by
     intro s;rw [h2 s,memS_app];cases memS s K<;>cases memS s L'<;>rfl
    obtain ⟨y,kn',g1,g2,g3,g4,g5⟩:=ih H' (L'++K) hm2 (by simp at h3;omega);refine ⟨y,kn',g1,g2,g3,g4,fun r r1 r2=>start r (h4 r (fun e=>by cases e) (fun _=>Ev.ifF (by rw [hneg];simp) (g5 r r1 r2)))⟩
def fineE (K:List ByteArray) (e:S106):Bool:=!(e.f0==1 && !(memS e.f2 K))
def allF (es:List S106) (K:List ByteArray):Nat→Nat→Bool
 | 0,_=>true
 | d+1,k=>fineE K (exA es k)&&allF es K d (k+1)
theorem allF_add (K:List ByteArray):∀a b k,allF es K (a+b) k=(allF es K a k&&allF es K b (k+a))
 | 0,b,k=>by simp [allF]
 | a+1,b,k=>by
  rw [show a+1+b=(a+b)+1 by omega];simp only [allF];rw [allF_add K a b (k+1),Bool.and_assoc,show k+1+a=k+(a+1) by omega]
theorem scE (hsz:∀e,e∈es→e.f2.size≤maxLen) (K:List ByteArray) (x:Nat) (hx:x<es.length):∀d fu k,k+d=x+1→d≤fu→∃k',sc_e es K fu (k:Int) (x:Int)=some (allF es K d k,k')∧(allF es K d k=true→k'=(x:Int)+1):=by
 intro d;induction d with
 | zero=>
  intro fu k hk _;refine ⟨(k:Int),?_,fun _=>by omega⟩;cases fu<;>(unfold sc_e;rw [if_neg (by omega)];rfl)
 | succ d ih=>
  intro fu k hk hf;cases fu with
  | zero=>omega
  | succ fu=>
   have hlt:k<es.length:=by omega
   have hin:(exA es k).f2.size≤maxLen:=hsz _ (by unfold exA;exact getD_in _ hlt)
   unfold sc_e
   rw [if_pos (by omega),rdE,if_pos ⟨by omega,by omega,hin⟩];simp only [allF,fineE];by_cases c:(exA es k).f0=1∧memS (exA es k).f2 K=false
   ·rw [if_pos c];refine ⟨(k:Int),?_,fun e=>?_⟩
    ·rw [c.1,c.2];simp
    ·rw [c.1,c.2] at e;simp at e
   ·rw [if_neg c];obtain ⟨k',h1,h2⟩:=ih fu (k+1) (by omega) (by omega)
    have e:(!((exA es k).f0==1 && !memS (exA es k).f2 K))=true:=by
     rw [Bool.not_eq_true',Bool.eq_false_iff];intro q;rw [Bool.and_eq_true,beq_iff_eq,Bool.not_eq_true'] at q;exact c q
    rw [e,Bool.true_and];refine ⟨k',?_,h2⟩;rw [←h1];congr 1
theorem scArgs {fs ds:List Int} (hT:TInv es es.length fs ds) (hsz:∀e,e∈es→e.f2.size≤maxLen) (K:List ByteArray):∀(xs:List Int) (n n':Int),Chain fs xs n n'→∀kn:Nat,n=(kn:Int)→
  ∃kn':Nat,n'=(kn':Int)∧kn≤kn'∧kn'≤max kn es.length∧(∃k',sc_args es K xs n=some (allF es K (kn'-kn) kn,k')∧(allF es K (kn'-kn) kn=true→k'=n'))∧(xs≠[]→rd xs ((xs.length:Int)-1)=n'-1∧kn<kn'):=by
 intro xs n n' hC;induction hC with
 | nil n=>
  intro kn hn;refine ⟨kn,hn,Nat.le_refl _,by omega,⟨n,?_,fun _=>rfl⟩,fun h=>absurd rfl h⟩;rw [Nat.sub_self];rfl
 | cons x xs n n' hx hf hC ih=>
  intro kn hn;have hlx:x<es.length:=by have:=hT.lf;omega
  have hx2:=hT.at_ x hlx;obtain ⟨kn',h1,h2,h3,⟨k',h4,h5⟩,h6⟩:=ih (x+1) (by omega);have hle:kn≤x:=by omega
  obtain ⟨k1,g1,g2⟩:=scE es hsz K x hlx (x+1-kn) es.length kn (by omega) (by omega);have hsp:kn'-kn=(x+1-kn)+(kn'-(x+1)):=by omega
  refine ⟨kn',h1,by omega,by omega,?_,fun _=>?_⟩
  ·rw [hsp,allF_add,show kn+(x+1-kn)=x+1 by omega];unfold sc_args
   rw [hn,g1];simp only [Option.bind_some];cases ha:allF es K (x+1-kn) kn with
   | false=>exact ⟨k1,by rw [if_neg (by simp)];rfl,fun e=>by simp at e⟩
   | true=>
    rw [if_pos (by trivial),g2 ha,Bool.true_and];exact ⟨k',h4,h5⟩
  ·by_cases hxs:xs=[]
   ·subst hxs;have:=chain_nil hC
    refine ⟨?_,by omega⟩;rw [this];simp [rd]
   ·obtain ⟨q1,q2⟩:=h6 hxs;refine ⟨?_,by omega⟩;rw [←q1];have hl:0<xs.length:=List.length_pos_iff.2 hxs
    obtain ⟨m,hm⟩:∃m,xs.length=m+1:=⟨xs.length-1,by omega⟩;unfold rd
    rw [List.length_cons,hm,show (((m+1+1:Nat):Int)-1).toNat=m+1 by omega,show (((m+1:Nat):Int)-1).toNat=m by omega,List.getD_cons_succ]
theorem scanSpec (hsz:es.length≤60) (hp6:ps.length≤6) (m:Nat) (hm:m<8) (kn K:List ByteArray) (hkn:∀s,memS s kn=memS s K) (hkl:kn.length≤36) (a:S108) (n':Nat) (hn':n'≤es.length) (hne:a.f3≠[]) (hal:a.f3.length≤9223372036854775807) (hlast:rd a.f3 ((a.f3.length:Int)-1)=(n':Int)-1):
  ∀d k,k+d=n'→∀r,(allF es K d k=false→r=(ps.length:Int)+(m:Int)+1)→(allF es K d k=true→Ev (fun f=>spec_l2Scope.l2 f kn as_ (as_.length:Int) ((m+1:Nat):Int) nm sa ps es as_) r)→
   Ev (fun f=>spec_l2Scope.l3 f kn (m:Int) (k:Int) as_ (as_.length:Int) (m:Int) nm sa ps es as_ a.f0 a.f1 a.f2 a.f3) r:=by
 have hl:0<a.f3.length:=List.length_pos_iff.2 hne
 have hw:wrap64 ((a.f3.length:Int)-1)=(a.f3.length:Int)-1:=by unfold wrap64;omega
 intro d;induction d with
 | zero=>
  intro k hk r _ h2;refine Ev.step (fun f=>by simp only [spec_l2Scope.l3,hw,hlast,wrap_succ hm (show 8≤9223372036854775807 by omega)];exact rfl) ?_;exact Ev.ifT (by omega) (Ev.ifT (by omega) (Ev.ifF (by omega) (h2 rfl)))
 | succ d ih=>
  intro k hk r h1 h2;have hlt:k<es.length:=by omega
  refine Ev.step (fun f=>by simp only [spec_l2Scope.l3,hw,hlast,wrap_succ hlt (show es.length≤9223372036854775807 by omega),rdE];exact rfl) ?_;refine Ev.ifT (by omega) (Ev.ifT (by omega) (Ev.ifT (by omega) (Ev.ifT (by omega) (Ev.ifT (by omega) ?_))));simp only [allF,fineE] at h1 h2
  have rest:fineE K (exA es k)=true→Ev (fun f=>spec_l2Scope.l3 f kn (m:Int) ((k+1:Nat):Int) as_ (as_.length:Int) (m:Int) nm sa ps es as_ a.f0 a.f1 a.f2 a.f3) r:=by
   intro e;unfold fineE at e
   rw [e,Bool.true_and] at h1 h2;exact ih (k+1) (by omega) r h1 h2
  refine Ev.ite (fun c=>?_) (fun c=>?_)
  ·have his:=l2Is_some (exA es k).f2 kn (by omega);rw [memB_eq,hkn] at his;refine Ev.bind his ?_;cases hme:memS (exA es k).f2 K with
   | true=>exact Ev.ifT (by trivial) (rest (by unfold fineE;rw [hme];simp))
   | false=>
    refine Ev.ifF (by simp) (Ev.as (Ev.now _) ?_);rw [h1 (by rw [c,hme];simp)];exact wrap2 ps.length m hp6 hm
  ·exact rest (by unfold fineE;rw [beq_eq_false_iff_ne.2 c];rfl)
theorem scopeA {fs ds:List Int} (hT:TInv es es.length fs ds) (h60:es.length≤60) (hp6:ps.length≤6) (ha8:as_.length≤8) (hsz:∀e,e∈es→e.f2.size≤maxLen) (kn K:List ByteArray) (hkn:∀s,memS s kn=memS s K) (hkl:kn.length≤36):
  ∀m,m≤as_.length→∀(n n':Int) (nn:Nat),n=(nn:Int)→nn≤es.length→Chains fs (as_.drop m) n n'→
  ∃v,sc_acts es K ps.length (as_.drop m) m n=some v∧(v=-1∨0≤v)∧Ev (fun k=>spec_l2Scope.l2 k kn as_ (as_.length:Int) (m:Int) nm sa ps es as_) v:=by
 refine up_ind ?_ ?_
 ·intro n n' nn _ _ _;refine ⟨-1,?_,Or.inl rfl,?_⟩
  ·rw [List.drop_length];rfl
  ·refine Ev.step (fun k=>by simp only [spec_l2Scope.l2];exact rfl) ?_;exact Ev.ifF (by omega) (Ev.now _)
 ·intro m hm ih n n' nn hn hnn hC;have hrd:rd_T108 as_ (m:Int)=as_.getD m z108:=by simp [rd_T108]
  rw [drop_getD z108 hm] at hC ⊢;generalize as_.getD m z108=a at *;cases hC with
  | cons _ _ _ n1 _ hOK h1 h2=>
  obtain ⟨kn1,g1,g2,g3,⟨k',g4,g5⟩,g6⟩:=scArgs es hT hsz K a.f3 n n1 h1 nn hn;obtain ⟨v,e1,e2,e3⟩:=ih n1 n' kn1 g1 (by omega) h2
  have start:∀r,Ev (fun k=>if (a.f3.length:Int)=0 then (spec_l2Scope.l2 k kn as_ (as_.length:Int) ((m+1:Nat):Int) nm sa ps es as_) else (if 0<(a.f3.length:Int) then ((spec_l2First.f k es (rd a.f3 0)).bind fun t188=>(spec_l2Scope.l3 k kn (m:Int) t188 as_ (as_.length:Int) (m:Int) nm sa ps es as_ a.f0 a.f1 a.f2 a.f3)) else (none))) r→Ev (fun k=>spec_l2Scope.l2 k kn as_ (as_.length:Int) (m:Int) nm sa ps es as_) r:=by
   intro r hr;refine Ev.step (fun k=>by simp only [spec_l2Scope.l2,hrd,wrap_succ hm (show as_.length≤9223372036854775807 by omega)];exact rfl) ?_;exact Ev.ifT (by omega) (Ev.ifT (by omega) (Ev.ifT (by omega) hr))
  unfold sc_acts
  rw [g4];simp only [Option.bind_some];by_cases hne:a.f3=[]
  ·have hnn1:n1=n:=by rw [hne] at h1;exact chain_nil h1
   have hkk:kn1=nn:=by omega
   rw [hkk,Nat.sub_self] at g5 ⊢;rw [if_pos (by rfl),g5 rfl];refine ⟨v,e1,e2,start _ (Ev.ifT (by rw [hne];rfl) e3)⟩
  ·obtain ⟨q1,q2⟩:=g6 hne;have hl:0<a.f3.length:=List.length_pos_iff.2 hne
   have hfirst:Ev (fun k=>spec_l2First.f k es (rd a.f3 0)) n:=by
    obtain ⟨f0,f1,f2,f3⟩:=a;dsimp only at h1 hne ⊢
    cases h1 with
    | nil=>exact absurd rfl hne
    | cons x xs _ _ hx hf _=>
     have:=first_ev hT (Nat.le_refl _) x (by have:=hT.lf;omega)
     rw [hf] at this;exact this
   have scan:=scanSpec nm sa ps es as_ h60 hp6 m (by omega) kn K hkn hkl a kn1 (by omega) hne (by have:=hOK.1;omega) (by rw [q1,g1]) (kn1-nn) nn (by omega);cases hall:allF es K (kn1-nn) nn with
   | true=>
    rw [if_pos (by trivial),g5 hall];refine ⟨v,e1,e2,start _ (Ev.ifF (by omega) (Ev.ifT (by omega) (Ev.bind hfirst ?_)))⟩;rw [hn];exact scan v (fun e=>by rw [hall] at e;cases e) (fun _=>e3)
   | false=>
    rw [if_neg (by simp)];refine ⟨(ps.length:Int)+(m:Int)+1,rfl,Or.inr (by omega),start _ (Ev.ifF (by omega) (Ev.ifT (by omega) (Ev.bind hfirst ?_)))⟩;rw [hn];exact scan _ (fun _=>rfl) (fun e=>by rw [hall] at e;cases e)
end
theorem goodTerm_size (t:S134) (h:goodTermB t=true):t.f2.size≤20:=by
 have e0:t.f2.toList.isEmpty=true→t.f2.size=0:=by
  intro e;rw [ByteArray.toList_eq,List.isEmpty_iff] at e;have:=congrArg List.length e
  rw [Array.length_toList] at this;simpa using this
 have e1:goodSymB t.f2=true→t.f2.size≤20:=by
  intro e;unfold goodSymB at e
  split at e
  ·cases e
  split at e
  ·cases e
  omega
 unfold goodTermB at h
 split at h
 ·simp only [Bool.and_eq_true] at h;rw [e0 h.2.1];omega
 split at h
 ·simp only [Bool.and_eq_true] at h;rw [e0 h.1.2];omega
 split at h
 ·simp only [Bool.and_eq_true] at h;exact e1 h.2
 split at h
 ·split at h
  ·cases h
  split at h
  ·cases h
  split at h
  ·rename_i e
   rw [e0 e];omega
  ·simp only [Bool.and_eq_true] at h;exact e1 h.1
 ·cases h
theorem goodPat_parts {cls:ByteArray} {ts:List S134} (h:goodPatB cls ts=true):goodClsB cls=true∧ts.length≤6∧∀t,t∈ts→goodTermB t=true:=by
 unfold goodPatB at h
 simp only [Bool.and_eq_true,decide_eq_true_eq,List.all_eq_true] at h;exact ⟨h.1,h.2.1,h.2.2⟩
theorem scope_both (nm:ByteArray) (sa:Int) (ps:List S101) (es:List S106) (as_:List S108) (hsz:∀e,e∈es→e.f2.size≤maxLen) (hS:ShapeOK nm ps es as_):
  ∃v,Ev (fun k=>spec_l2Scope.f k nm sa ps es as_) v∧impl_Rule_scopeFault.f nm sa ps es as_=some v∧(v=-1∨0≤v):=by
 obtain ⟨_,hp6,ha8,h60,hgp,fs,ds,hT,hC⟩:=hS
 have htl:∀p,p∈ps→p.f2.length≤6∧∀t,t∈p.f2→t.f2.size≤maxLen:=by
  intro p hp;obtain ⟨_,h2,h3⟩:=goodPat_parts (hgp p hp);exact ⟨h2,fun t ht=>Nat.le_trans (goodTerm_size t (h3 t ht)) (by unfold maxLen;omega)⟩
 obtain ⟨y,kn',h1,h2,h3,h4,h5⟩:=scopeP nm sa ps es as_ hp6 htl 0 (Nat.zero_le _) [] [] (fun _=>rfl) (by simp);rw [List.drop_zero] at h1
 have start:∀r,Ev (fun k=>spec_l2Scope.l0 k ([]:List ByteArray) ps (ps.length:Int) ((0:Nat):Int) nm sa ps es as_) r→Ev (fun k=>spec_l2Scope.f k nm sa ps es as_) r:=by
  intro r hr;exact Ev.congr (fun k=>by unfold spec_l2Scope.f;exact rfl) hr
 unfold impl_Rule_scopeFault.f
 rw [if_pos ⟨hp6,h60,ha8⟩,h1];simp only [Option.bind_some];rcases h4 with h4|h4
 ·rw [if_pos h4];obtain ⟨v,e1,e2,e3⟩:=scopeA nm sa ps es as_ hT h60 hp6 ha8 hsz kn' y.2 h2 h3 0 (Nat.zero_le _) 0 _ 0 rfl (Nat.zero_le _) (by rw [List.drop_zero];exact hC);rw [List.drop_zero] at e1;exact ⟨v,start v (h5 v (fun e=>by omega) (fun _=>e3)),e1,e2⟩
 ·rw [if_neg (by omega)];exact ⟨y.1,start _ (h5 _ (fun _=>rfl) (fun e=>by omega)),rfl,Or.inr h4⟩
end Go.Proofs.YtejjlkbbnhpbdaaGreat.Pure
namespace Go.Proofs.YtejjlkbbnhpbdaaGreat.Pure
open Go.RowKit Go.Proofs.YtejjlkbbnhpbdaaGreat.P Go.Proofs.YtejjlkbbnhpbdaaGreatW.PrintWords Go.Proofs.YtejjlkbbnhpbdaaGreatW.PrintLast Go.Proofs.YtejjlkbbnhpbdaaGreatX
set_option linter.unusedVariables false
set_option linter.unusedSimpArgs false
def posN (ps:List S101):Nat:=(ps.filter fun p=>!p.f0).length
theorem posN_cons (p:S101) (ps:List S101):posN (p::ps)=if p.f0=true then posN ps else posN ps+1:=by
 unfold posN
 rw [List.filter_cons];cases p.f0<;>simp
theorem specPos (ps:List S101) (hl:ps.length≤6):∀i,i≤ps.length→∀c:Int,0≤c→c≤100→Ev (fun k=>spec_l2Positive.l0 k c ps (ps.length:Int) (i:Int)) (c+(posN (ps.drop i):Int)):=by
 have key:∀i,i≤ps.length→∀c:Int,0≤c→c≤100+(i:Int)→Ev (fun k=>spec_l2Positive.l0 k c ps (ps.length:Int) (i:Int)) (c+(posN (ps.drop i):Int)):=by
  refine up_ind ?_ ?_
  ·intro c _ _;rw [List.drop_length];refine Ev.step (fun k=>by simp only [spec_l2Positive.l0];exact rfl) ?_;exact Ev.ifF (by omega) (Ev.as (Ev.now _) (by simp [posN]))
  ·intro i hi ih c h0 h1;have hrd:rd_T101 ps (i:Int)=ps.getD i z101:=by simp [rd_T101]
   rw [drop_getD z101 hi,posN_cons];refine Ev.step (fun k=>by simp only [spec_l2Positive.l0,wrap_succ hi (show ps.length≤9223372036854775807 by omega),hrd];exact rfl) ?_;refine Ev.ifT (by omega) (Ev.ifT (by omega) (Ev.ifT (by omega) ?_));refine Ev.ite (fun q=>?_) (fun q=>?_)
   ·rw [if_pos q];exact ih c h0 (by omega)
   ·rw [if_neg q];rw [show wrap64 (c+1)=c+1 by unfold wrap64;omega];exact Ev.as (ih (c+1) (by omega) (by omega)) (by omega)
 intro i hi c h0 h1;exact key i hi c h0 (by omega)
theorem implPos (ps:List S101) (hl:ps.length≤6):∀i,i≤ps.length→∀c:Int,0≤c→c≤100+(i:Int)→Ev (fun k=>impl_Rule_positives.l0 k c ps (ps.length:Int) (i:Int)) (c+(posN (ps.drop i):Int)):=by
 refine up_ind ?_ ?_
 ·intro c _ _;rw [List.drop_length];refine Ev.step (fun k=>by simp only [impl_Rule_positives.l0];exact rfl) ?_;exact Ev.ifF (by omega) (Ev.as (Ev.now _) (by simp [posN]))
 ·intro i hi ih c h0 h1;have hrd:rd_T101 ps (i:Int)=ps.getD i z101:=by simp [rd_T101]
  rw [drop_getD z101 hi,posN_cons];refine Ev.step (fun k=>by simp only [impl_Rule_positives.l0,wrap_succ hi (show ps.length≤9223372036854775807 by omega),hrd];exact rfl) ?_;refine Ev.ifT (by omega) (Ev.ifT (by omega) (Ev.ifT (by omega) ?_));refine Ev.ite (fun q=>?_) (fun q=>?_)
  ·rw [if_pos q];exact ih c h0 (by omega)
  ·rw [if_neg q];rw [show wrap64 (c+1)=c+1 by unfold wrap64;omega];exact Ev.as (ih (c+1) (by omega) (by omega)) (by omega)
theorem specPos_some (nm:ByteArray) (sa:Int) (ps:List S101) (es:List S106) (as_:List S108) (hl:ps.length≤6):Ev (fun k=>spec_l2Positive.f k nm sa ps es as_) (posN ps:Int):=by
 refine Ev.congr (fun k=>by unfold spec_l2Positive.f;exact rfl) ?_;exact Ev.as (specPos ps hl 0 (Nat.zero_le _) 0 (by omega) (by omega)) (by rw [List.drop_zero];omega)
theorem implPos_some (nm:ByteArray) (sa:Int) (ps:List S101) (es:List S106) (as_:List S108) (hl:ps.length≤6):Ev (fun k=>impl_Rule_positives.f k nm sa ps es as_) (posN ps:Int):=by
 refine Ev.congr (fun k=>by unfold impl_Rule_positives.f;exact rfl) ?_;exact Ev.as (implPos ps hl 0 (Nat.zero_le _) 0 (by omega) (by omega)) (by rw [List.drop_zero];omega)
theorem ck_acts_sign (n:Int) (lp:Nat):∀(as_:List S108) (j:Nat),ck_acts n lp as_ j=-1∨0≤ck_acts n lp as_ j
 | [],j=>Or.inl rfl
 | a::as_,j=>by
  unfold ck_acts
  split
  ·exact Or.inr (by omega)
  ·exact ck_acts_sign n lp as_ (j+1)
def RuleSz (q:S58):Prop:=q.f0.size≤maxLen∧(∀e,e∈q.f3→okByte e.f1∧e.f2.size≤maxLen)
def RuleOK (q:S58):Prop:=ShapeOK q.f0 q.f2 q.f3 q.f4∧1≤posN q.f2∧posN q.f2≤3∧impl_Rule_scopeFault.f q.f0 q.f1 q.f2 q.f3 q.f4=some (-1)∧ck_acts (posN q.f2:Int) q.f2.length q.f4 0=-1
section
variable (R:List S58)
theorem ckSpec (i:Nat) (hi:i<R.length) (q:S58) (n:Int) (hp:q.f2.length≤6) (ha:q.f4.length≤8):∀m,m≤q.f4.length→∀r,(0≤ck_acts n q.f2.length (q.f4.drop m) m→r=(5,(i:Int),ck_acts n q.f2.length (q.f4.drop m) m))→
  (ck_acts n q.f2.length (q.f4.drop m) m=-1→Ev (fun k=>spec_CheckRules.l0 k R R (R.length:Int) (wrap64 ((i:Int)+1))) r)→
  Ev (fun k=>spec_CheckRules.l2 k R (i:Int) n R (R.length:Int) (i:Int) q.f4 (q.f4.length:Int) (m:Int) q.f0 q.f1 q.f2 q.f3 q.f4) r:=by
 refine up_ind ?_ ?_
 ·intro r _ h2;refine Ev.step (fun k=>by simp only [spec_CheckRules.l2];exact rfl) ?_;refine Ev.ifF (by omega) (h2 ?_);rw [List.drop_length];rfl
 ·intro m hm ih r h1 h2;have hrd:rd_T108 q.f4 (m:Int)=q.f4.getD m z108:=by simp [rd_T108]
  rw [drop_getD z108 hm] at h1 h2;refine Ev.step (fun k=>by simp only [spec_CheckRules.l2,wrap_succ hm (show q.f4.length≤9223372036854775807 by omega),hrd];exact rfl) ?_;generalize q.f4.getD m z108=a at *;unfold ck_acts at h1 h2
  refine Ev.ifT (by omega) (Ev.ifT (by omega) (Ev.ifT (by omega) ?_))
  have bad:(a.f0=2∨a.f0=3)∧(a.f1<1∨n<a.f1)→Ev (fun _=>some ((5,(i:Int),wrap64 (wrap64 ((q.f2.length:Int)+(m:Int))+1)):Int×Int×Int)) r:=by
   intro c;rw [if_pos c] at h1;refine Ev.as (Ev.now _) ?_;rw [h1 (by omega),wrap2 q.f2.length m hp (by omega)]
  have good:¬((a.f0=2∨a.f0=3)∧(a.f1<1∨n<a.f1))→Ev (fun k=>spec_CheckRules.l2 k R (i:Int) n R (R.length:Int) (i:Int) q.f4 (q.f4.length:Int) ((m+1:Nat):Int) q.f0 q.f1 q.f2 q.f3 q.f4) r:=by
   intro c;rw [if_neg c] at h1 h2;exact ih r h1 h2
  refine Ev.ite (fun c2=>?_) (fun c2=>?_)
  ·refine Ev.ite (fun d1=>bad ⟨Or.inl c2,Or.inl d1⟩) (fun d1=>?_);exact Ev.ite (fun d2=>bad ⟨Or.inl c2,Or.inr d2⟩) (fun d2=>good (fun z=>by rcases z.2 with z|z;exact d1 z;exact d2 z))
  ·refine Ev.ite (fun c3=>?_) (fun c3=>?_)
   ·refine Ev.ite (fun d1=>bad ⟨Or.inr c3,Or.inl d1⟩) (fun d1=>?_);exact Ev.ite (fun d2=>bad ⟨Or.inr c3,Or.inr d2⟩) (fun d2=>good (fun z=>by rcases z.2 with z|z;exact d1 z;exact d2 z))
   ·exact good (fun z=>by rcases z.1 with z|z;exact c2 z;exact c3 z)
theorem nameSpec (i:Nat) (hi:i<R.length) (h16:R.length≤16) (q:S58) (T:List S58) (hT:T.length≤16):∀j,j≤T.length→∀r,(memS q.f0 ((T.drop j).map fun p=>p.f0)=true→r=(2,(i:Int),0))→
  (memS q.f0 ((T.drop j).map fun p=>p.f0)=false→Ev (fun k=>(spec_l2Positive.f k q.f0 q.f1 q.f2 q.f3 q.f4).bind fun t203=>(if t203<1 then (spec_CheckRules.j2 k R (i:Int) t203 R (R.length:Int) (i:Int) true q.f0 q.f1 q.f2 q.f3 q.f4) else (spec_CheckRules.j2 k R (i:Int) t203 R (R.length:Int) (i:Int) (decide (t203>3)) q.f0 q.f1 q.f2 q.f3 q.f4))) r)→
  Ev (fun k=>spec_CheckRules.l1 k R (i:Int) R (R.length:Int) (i:Int) T (T.length:Int) (j:Int) q.f0 q.f1 q.f2 q.f3 q.f4) r:=by
 refine up_ind ?_ ?_
 ·intro r _ h2;refine Ev.step (fun k=>by simp only [spec_CheckRules.l1];exact rfl) ?_;refine Ev.ifF (by omega) (h2 ?_);rw [List.drop_length];rfl
 ·intro j hj ih r h1 h2;have hrd:rd_T58 T (j:Int)=T.getD j z58:=by simp [rd_T58]
  rw [drop_getD z58 hj] at h1 h2;refine Ev.step (fun k=>by simp only [spec_CheckRules.l1,wrap_succ hj (show T.length≤9223372036854775807 by omega),hrd];exact rfl) ?_;generalize T.getD j z58=p at *;simp only [List.map_cons,memS] at h1 h2;refine Ev.ifT (by omega) (Ev.ifT (by omega) (Ev.ifT (by omega) ?_));refine Ev.ite (fun c=>?_) (fun c=>?_)
  ·rw [beq_iff_eq.2 c,Bool.true_or] at h1;exact Ev.as (Ev.now _) (h1 rfl).symm
  ·rw [beq_eq_false_iff_ne.2 c,Bool.false_or] at h1 h2;exact ih r h1 h2
theorem memS_rev (s:ByteArray) (L:List ByteArray):memS s L.reverse=memS s L:=by
 induction L with
 | nil=>rfl
 | cons u r ih=>
  rw [List.reverse_cons,memS_snoc,ih];simp only [memS];exact Bool.or_comm _ _
def namesB (i:Nat):List ByteArray:=((R.take i).map fun p=>p.f0).reverse
theorem checkLoop (h16:R.length≤16) (hsz:∀q,q∈R→RuleSz q):∀i,i≤R.length→∃y:Int×Int×Int,Ev (fun k=>spec_CheckRules.l0 k R R (R.length:Int) (i:Int)) y∧Ev (fun k=>ck_rules k (R.drop i) i (namesB R i)) y∧
  (y=(0,0,0)∧(∀j,i≤j→j<R.length→RuleOK (R.getD j z58)∧memS (R.getD j z58).f0 (namesB R j)=false)∨1≤y.1):=by
 refine up_ind ?_ ?_
 ·refine ⟨(0,0,0),?_,?_,Or.inl ⟨rfl,fun j h1 h2=>by omega⟩⟩
  ·refine Ev.step (fun k=>by simp only [spec_CheckRules.l0];exact rfl) ?_;exact Ev.ifF (by omega) (Ev.now _)
  ·rw [List.drop_length];exact Ev.now _
 ·intro i hi ih;obtain ⟨y,ih1,ih2,ih3⟩:=ih;have hrd:rd_T58 R (i:Int)=R.getD i z58:=by simp [rd_T58]
  have hq:=hsz _ (getD_in z58 hi)
  have hnext:namesB R (i+1)=(R.getD i z58).f0::namesB R i:=by
   unfold namesB
   rw [List.take_succ_eq_append_getElem hi,List.map_append,List.reverse_append,getD_lt z58 hi];rfl
  rw [hnext] at ih2
  have hcase:(RuleOK (R.getD i z58)∧memS (R.getD i z58).f0 (namesB R i)=false)→(y=(0,0,0)∧(∀j,i≤j→j<R.length→RuleOK (R.getD j z58)∧memS (R.getD j z58).f0 (namesB R j)=false)∨1≤y.1):=by
   intro hc;refine ih3.imp (fun z=>⟨z.1,fun j h1 h2=>?_⟩) id;by_cases e:j=i
   ·subst e;exact hc
   ·exact z.2 j (by omega) h2
  rw [drop_getD z58 hi];clear ih3 hnext
  have startS:∀r,Ev (fun k=>(spec_l2Shape.f k (R.getD i z58).f0 (R.getD i z58).f1 (R.getD i z58).f2 (R.getD i z58).f3 (R.getD i z58).f4).bind fun t196=>(if t196≥0 then (some (1,(i:Int),t196)) else (spec_CheckRules.l1 k R (i:Int) R (R.length:Int) (i:Int) (R.take i) ((R.take i).length:Int) ((0:Nat):Int) (R.getD i z58).f0 (R.getD i z58).f1 (R.getD i z58).f2 (R.getD i z58).f3 (R.getD i z58).f4))) r→Ev (fun k=>spec_CheckRules.l0 k R R (R.length:Int) (i:Int)) r:=by
   intro r hr;obtain ⟨Kr,hr⟩:=hr;refine ⟨Kr+1,fun k hk=>?_⟩;obtain ⟨m,rfl⟩:∃m,k=m+1:=⟨k-1,by omega⟩;have:=hr m (by omega)
   dsimp only at this ⊢
   simp only [spec_CheckRules.l0,hrd];rw [if_pos (by omega),if_pos (by omega),if_pos (by omega),if_pos (by omega)];simp only [Option.bind_some,Int.toNat_natCast];exact this
  generalize hqq:R.getD i z58=q at *;obtain ⟨hq0,hqe⟩:=hq;obtain ⟨v,hs1,hs2,hs3⟩:=shape_both q.f0 q.f1 q.f2 q.f3 q.f4 (fun e he=>(hqe e he).1)
  have startI:∀r,Ev (fun k=>(if 0≤v then some (1,(i:Int),v) else
   if memS q.f0 (namesB R i)=true then some (2,(i:Int),0) else
   (impl_Rule_positives.f k q.f0 q.f1 q.f2 q.f3 q.f4).bind fun n=>if n<1∨3<n then some (3,(i:Int),0) else
   (impl_Rule_scopeFault.f q.f0 q.f1 q.f2 q.f3 q.f4).bind fun c=>if 0≤c then some (4,(i:Int),c) else
   if q.f2.length≤6∧q.f4.length≤8 then (if ck_acts n q.f2.length q.f4 0=-1 then ck_rules k (R.drop (i+1)) (i+1) (q.f0::namesB R i) else some (5,(i:Int),ck_acts n q.f2.length q.f4 0)) else none:Option (Int×Int×Int))) r→Ev (fun k=>ck_rules k (q::R.drop (i+1)) i (namesB R i)) r:=by
   intro r hr;refine Ev.congr (fun k=>by unfold ck_rules;rw [if_pos hq0,hs2]) ?_;exact hr
  rcases hs3 with ⟨hv,hS⟩|hv
  rotate_left
  ·exact ⟨(1,(i:Int),v),startS _ (Ev.bind hs1 (Ev.ifT hv (Ev.now _))),startI _ (Ev.ifT hv (Ev.now _)),Or.inr (by dsimp only;omega)⟩
  replace startS:=fun r hr=>startS r (Ev.bind hs1 (Ev.ifF (by omega) hr))
  replace startI:=fun r hr=>startI r (Ev.ifF (by omega) hr)
  have hS2:=hS;obtain ⟨_,hp6,ha8,h60,_,_⟩:=hS2
  have hnames:memS q.f0 (((R.take i).drop 0).map fun p=>p.f0)=memS q.f0 (namesB R i):=by
   unfold namesB
   rw [memS_rev,List.drop_zero]
  have hname:=nameSpec R i hi h16 q (R.take i) (by rw [List.length_take];omega) 0 (Nat.zero_le _);rw [hnames] at hname;cases hm:memS q.f0 (namesB R i) with
  | true=>
   rw [hm] at startI hname;exact ⟨(2,(i:Int),0),startS _ (hname _ (fun _=>rfl) (fun e=>by cases e)),startI _ (Ev.ifT (by trivial) (Ev.now _)),Or.inr (by dsimp only;omega)⟩
  | false=>
  rw [hm] at startI hname hcase;replace startI:=fun r hr=>startI r (Ev.ifF (by simp) (Ev.bind (implPos_some q.f0 q.f1 q.f2 q.f3 q.f4 hp6) hr))
  replace startS:=fun r hr=>startS r (hname r (fun e=>by cases e) (fun _=>Ev.bind (specPos_some q.f0 q.f1 q.f2 q.f3 q.f4 hp6) hr))
  have hj2:∀b r,(b=true→r=(3,(i:Int),0))→(b=false→Ev (fun k=>(spec_l2Scope.f k q.f0 q.f1 q.f2 q.f3 q.f4).bind fun t204=>(if t204≥0 then (some (4,(i:Int),t204)) else (spec_CheckRules.l2 k R (i:Int) (posN q.f2:Int) R (R.length:Int) (i:Int) q.f4 (q.f4.length:Int) 0 q.f0 q.f1 q.f2 q.f3 q.f4))) r)→
    Ev (fun k=>spec_CheckRules.j2 k R (i:Int) (posN q.f2:Int) R (R.length:Int) (i:Int) b q.f0 q.f1 q.f2 q.f3 q.f4) r:=by
   intro b r h1 h2;refine Ev.step (fun k=>by simp only [spec_CheckRules.j2];exact rfl) ?_;cases b with
   | true=>exact Ev.ifT (by trivial) (Ev.as (Ev.now _) (h1 rfl).symm)
   | false=>exact Ev.ifF (by simp) (h2 rfl)
  by_cases n1:(posN q.f2:Int)<1
  ·exact ⟨(3,(i:Int),0),startS _ (Ev.ifT n1 (hj2 _ _ (fun _=>rfl) (fun e=>by cases e))),startI _ (Ev.ifT (Or.inl n1) (Ev.now _)),Or.inr (by dsimp only;omega)⟩
  by_cases n3:(posN q.f2:Int)>3
  ·exact ⟨(3,(i:Int),0),startS _ (Ev.ifF n1 (hj2 _ _ (fun _=>rfl) (fun e=>absurd n3 (of_decide_eq_false e)))),startI _ (Ev.ifT (Or.inr n3) (Ev.now _)),Or.inr (by dsimp only;omega)⟩
  replace startS:=fun r hr=>startS r (Ev.ifF n1 (hj2 _ r (fun e=>absurd (of_decide_eq_true e) n3) (fun _=>hr)))
  replace startI:=fun r hr=>startI r (Ev.ifF (by omega) hr)
  obtain ⟨c,hc1,hc2,hc3⟩:=scope_both q.f0 q.f1 q.f2 q.f3 q.f4 (fun e he=>(hqe e he).2) hS;replace startI:=fun r hr=>startI r (Ev.bindE hc2 hr)
  rcases hc3 with hc3|hc3
  rotate_left
  ·exact ⟨(4,(i:Int),c),startS _ (Ev.bind hc1 (Ev.ifT hc3 (Ev.now _))),startI _ (Ev.ifT hc3 (Ev.now _)),Or.inr (by dsimp only;omega)⟩
  replace startS:=fun r hr=>startS r (Ev.bind hc1 (Ev.ifF (by omega) hr))
  replace startI:=fun r hr=>startI r (Ev.ifF (by omega) (Ev.ifT ⟨hp6,ha8⟩ hr))
  have hck:=ckSpec R i hi q (posN q.f2:Int) hp6 ha8 0 (Nat.zero_le _);rw [List.drop_zero] at hck;rcases ck_acts_sign (posN q.f2:Int) q.f2.length q.f4 0 with hk|hk
  ·refine ⟨y,startS _ (hck _ (fun e=>by omega) (fun _=>?_)),startI _ (Ev.ifT hk ih2),hcase ⟨⟨hS,by omega,by omega,by rw [hc2,hc3],hk⟩,rfl⟩⟩;rw [wrap_succ hi (show R.length≤9223372036854775807 by omega)];exact ih1
  ·exact ⟨_,startS _ (hck _ (fun _=>rfl) (fun e=>by omega)),startI _ (Ev.ifF (by omega) (Ev.now _)),Or.inr (by dsimp only;omega)⟩
theorem check_both (hsz:∀q,q∈R→RuleSz q):∃y:Int×Int×Int,Ev (fun k=>spec_CheckRules.f k R) y∧Ev (fun k=>impl_CheckRules.f k R) y∧
  (y=(0,0,0)∧R.length≤16∧(∀j,j<R.length→RuleOK (R.getD j z58)∧memS (R.getD j z58).f0 (namesB R j)=false)∨1≤y.1):=by
 by_cases c:16<R.length
 ·refine ⟨(1,0,0),?_,?_,Or.inr (by dsimp only;omega)⟩
  ·refine Ev.congr (fun k=>by unfold spec_CheckRules.f;exact rfl) ?_;exact Ev.ifT (by omega) (Ev.now _)
  ·refine Ev.congr (fun k=>by unfold impl_CheckRules.f;exact rfl) ?_;exact Ev.ifT c (Ev.now _)
 ·obtain ⟨y,h1,h2,h3⟩:=checkLoop R (by omega) hsz 0 (Nat.zero_le _);refine ⟨y,?_,?_,h3.imp (fun z=>⟨z.1,by omega,fun j hj=>z.2 j (Nat.zero_le _) hj⟩) id⟩
  ·refine Ev.congr (fun k=>by unfold spec_CheckRules.f;exact rfl) ?_;exact Ev.ifF (by omega) h1
  ·refine Ev.congr (fun k=>by unfold impl_CheckRules.f;exact rfl) ?_;refine Ev.ifF c ?_;rw [List.drop_zero] at h2;exact h2
end
end Go.Proofs.YtejjlkbbnhpbdaaGreat.Pure
namespace Go.Proofs.YtejjlkbbnhpbdaaGreat.Pure
open Go.RowKit Go.Proofs.YtejjlkbbnhpbdaaGreat.P Go.Proofs.YtejjlkbbnhpbdaaGreatW.PrintWords Go.Proofs.YtejjlkbbnhpbdaaGreatW.PrintLast Go.Proofs.YtejjlkbbnhpbdaaGreatX
set_option linter.unusedVariables false
set_option linter.unusedSimpArgs false
def Fall (l:List Int):Prop:=l.Pairwise fun x y=>y≤x
theorem fall_unique:∀(a b:List Int),a.Perm b→Fall a→Fall b→a=b
 | [],b,h,_,_=>(List.Perm.eq_nil h.symm).symm
 | x::xs,[],h,_,_=>List.Perm.eq_nil h
 | x::xs,y::ys,h,ha,hb=>by
  have ha':=List.pairwise_cons.1 ha;have hb':=List.pairwise_cons.1 hb;have hx:x∈y::ys:=h.mem_iff.1 List.mem_cons_self
  have hy:y∈x::xs:=h.mem_iff.2 List.mem_cons_self
  have e1:x≤y:=by
   rcases List.mem_cons.1 hx with e|e
   ·omega
   ·exact hb'.1 x e
  have e2:y≤x:=by
   rcases List.mem_cons.1 hy with e|e
   ·omega
   ·exact ha'.1 y e
  have e:x=y:=by omega
  subst e;rw [fall_unique xs ys (List.Perm.cons_inv h) ha'.2 hb'.2]
theorem recency_fall (l:List Int):Fall ((l.mergeSort fun x y=>decide (x≤y)).reverse):=by
 unfold Fall
 rw [List.pairwise_reverse];have:=List.pairwise_mergeSort (le:=fun (x y:Int)=>decide (x≤y)) (fun a b c h1 h2=>by simp at *;omega) (fun a b=>by simp;omega) l
 exact this.imp (fun h=>by simpa using h)
theorem recency_perm (l:List Int):((l.mergeSort fun x y=>decide (x≤y)).reverse).Perm l:=(List.reverse_perm _).trans (List.mergeSort_perm _ _)
def putAt (out:List Int) (t:Int):Nat→Nat
 | 0=>0
 | n+1=>if out.getD n 0<t then putAt out t n else n+1
theorem putAt_le (out:List Int) (t:Int):∀n,putAt out t n≤n
 | 0=>Nat.le_refl _
 | n+1=>by unfold putAt;split;exact Nat.le_succ_of_le (putAt_le out t n);exact Nat.le_refl _
theorem putAt_above (out:List Int) (t:Int):∀n j,putAt out t n≤j→j<n→out.getD j 0<t
 | 0,j,_,h=>absurd h (Nat.not_lt_zero _)
 | n+1,j,h1,h2=>by
  unfold putAt at h1
  split at h1
  ·rename_i h
   by_cases e:j=n
   ·rw [e];exact h
   ·exact putAt_above out t n j h1 (by omega)
  ·omega
theorem putAt_below (out:List Int) (t:Int):∀n,putAt out t n≠0→t≤out.getD (putAt out t n-1) 0
 | 0,h=>absurd rfl h
 | n+1,h=>by
  unfold putAt at h ⊢
  split
  ·rename_i g
   rw [if_pos g] at h;exact putAt_below out t n h
  ·rename_i g
   simp only [Nat.add_sub_cancel];omega
def insL (out:List Int) (t:Int):List Int:=(out.take (putAt out t out.length)++[t])++out.drop (putAt out t out.length)
theorem insL_length (out:List Int) (t:Int):(insL out t).length=out.length+1:=by
 have:=putAt_le out t out.length
 simp [insL]
 omega
theorem insL_perm (out:List Int) (t:Int):(insL out t).Perm (t::out):=by
 unfold insL
 have h1:((out.take (putAt out t out.length)++[t])++out.drop (putAt out t out.length)).Perm (([t]++out.take (putAt out t out.length))++out.drop (putAt out t out.length)):=List.Perm.append_right _ List.perm_append_comm
 refine h1.trans ?_;rw [List.append_assoc,List.take_append_drop];exact List.Perm.refl _
theorem insL_fall (out:List Int) (t:Int) (h:Fall out):Fall (insL out t):=by
 have hle:=putAt_le out t out.length;have hab:=putAt_above out t out.length;have hbe:=putAt_below out t out.length;unfold Fall at h ⊢
 unfold insL
 generalize putAt out t out.length=p at *;have hsp:(out.take p++out.drop p).Pairwise fun x y=>y≤x:=by rw [List.take_append_drop];exact h
 rw [List.pairwise_append] at hsp;obtain ⟨s1,s2,s3⟩:=hsp
 have hge:∀x,x∈out.take p→t≤x:=by
  intro x hx;obtain ⟨j,hj,e⟩:=List.getElem_of_mem hx;rw [List.length_take] at hj;have h2:=hbe (by omega)
  have h3:out.getD (p-1) 0≤x:=by
   rw [getD_lt 0 (by omega)];rw [←e,List.getElem_take];rcases Nat.lt_or_ge j (p-1) with g|g
   ·exact List.pairwise_iff_getElem.1 h j (p-1) (by omega) (by omega) g
   ·have:j=p-1:=by omega
    subst this;exact Int.le_refl _
  omega
 have hlt:∀x,x∈out.drop p→x<t:=by
  intro x hx;obtain ⟨j,hj,e⟩:=List.getElem_of_mem hx;rw [List.length_drop] at hj;have:=hab (p+j) (by omega) (by omega)
  rw [getD_lt 0 (by omega)] at this;rw [←e,List.getElem_drop];exact this
 rw [List.pairwise_append];refine ⟨?_,s2,?_⟩
 ·rw [List.pairwise_append];exact ⟨s1,by simp,fun x hx y hy=>by rw [List.mem_singleton.1 hy];exact hge x hx⟩
 ·intro x hx y hy;rcases List.mem_append.1 hx with g|g
  ·exact s3 x g y hy
  ·rw [List.mem_singleton.1 g];have:=hlt y hy
   omega
theorem spec_inner (out:List Int) (t:Int) (xs:List Int) (i:Nat) (hi:i<xs.length) (hx:xs.length≤1048576) (ho:out.length≤1048576) (r:List Int)
  (hnext:Ev (fun k=>spec_Recency.l0 k (insL out t) xs (xs.length:Int) ((i+1:Nat):Int)) r):
  Ev (fun k=>spec_Recency.l1 k out t (out.length:Int) xs (xs.length:Int) (i:Int)) r:=by
 have key:∀n,n≤out.length→putAt out t n=putAt out t out.length→Ev (fun k=>spec_Recency.l1 k out t (n:Int) xs (xs.length:Int) (i:Int)) r:=by
  intro n;induction n with
  | zero=>
   intro _ hp;obtain ⟨K,hK⟩:=hnext;refine ⟨K+1,fun k hk=>?_⟩;obtain ⟨m,rfl⟩:∃m,k=m+1:=⟨k-1,by omega⟩;have hK:=hK m (by omega);dsimp only at hK
   unfold insL at hK
   rw [←hp] at hK;simp only [spec_Recency.l1];rw [if_neg (by omega),if_pos (by omega),if_pos (by omega)];(try simp only [Option.bind_some]);rw [if_pos (by first|omega|(simp;done)|(simp;omega))];(try simp only [Option.bind_some]);rw [if_pos (by first|omega|(simp;done)|(simp;omega))];(try simp only [Option.bind_some]);rw [if_pos (by first|omega|(simp;done)|(simp;omega)),wrap_succ hi (by omega)];simpa [putAt] using hK
  | succ n ih=>
   intro hn hp;have hw:wrap64 (((n+1:Nat):Int)-1)=(n:Int):=by unfold wrap64;omega
   have hrd:rd out (n:Int)=out.getD n 0:=by simp [rd]
   by_cases c:out.getD n 0<t
   ·obtain ⟨K,hK⟩:=ih (by omega) (by rw [←hp];conv=>rhs;unfold putAt;rw [if_pos c]);refine ⟨K+1,fun k hk=>?_⟩;obtain ⟨m,rfl⟩:∃m,k=m+1:=⟨k-1,by omega⟩;simp only [spec_Recency.l1];rw [if_pos (by omega),hw,if_pos (by omega),if_pos (by omega),hrd,if_pos c];exact hK m (by omega)
   ·have hp':putAt out t out.length=n+1:=by rw [←hp];unfold putAt;rw [if_neg c]
    obtain ⟨K,hK⟩:=hnext;refine ⟨K+1,fun k hk=>?_⟩;obtain ⟨m,rfl⟩:∃m,k=m+1:=⟨k-1,by omega⟩;have hK:=hK m (by omega);dsimp only at hK
    unfold insL at hK
    rw [hp'] at hK;simp only [spec_Recency.l1];rw [if_pos (by omega),hw,if_pos (by omega),if_pos (by omega),hrd,if_neg c,if_pos (by omega),if_pos (by omega)];(try simp only [Option.bind_some,Int.toNat_natCast]);rw [if_pos (by first|omega|(simp;done)|(simp;omega))];(try simp only [Option.bind_some]);rw [if_pos (by first|omega|(simp;done)|(simp;omega))];(try simp only [Option.bind_some]);rw [if_pos (by first|omega|(simp;done)|(simp;omega)),wrap_succ hi (by omega)];simpa using hK
 exact key out.length (Nat.le_refl _) rfl
theorem specRecency_some (l:List Int) (hl:l.length≤1048576):Ev (fun k=>spec_Recency.f k l) (recencyL l):=by
 by_cases c:1000<l.length
 ·refine ⟨0,fun k _=>?_⟩;dsimp only
  unfold spec_Recency.f recencyL
  rw [if_pos (by omega),if_pos c]
 ·have key:∀i,i≤l.length→∀out:List Int,out.length=i→Fall out→out.Perm (l.take i)→Ev (fun k=>spec_Recency.l0 k out l (l.length:Int) (i:Int)) ((l.mergeSort fun x y=>decide (x≤y)).reverse):=by
   refine up_ind ?_ ?_
   ·intro out ho hf hp;rw [List.take_length] at hp;have e:=fall_unique out _ (hp.trans (recency_perm l).symm) hf (recency_fall l);refine ⟨1,fun k hk=>?_⟩;obtain ⟨m,rfl⟩:∃m,k=m+1:=⟨k-1,by omega⟩;simp only [spec_Recency.l0];rw [if_neg (by omega),e]
   ·intro i hi ih out ho hf hp
    have hnext:=ih (insL out (l.getD i 0)) (by rw [insL_length];omega) (insL_fall _ _ hf) (by
     refine (insL_perm _ _).trans ?_;rw [List.take_succ_eq_append_getElem hi,getD_lt 0 hi];exact ((List.Perm.cons _ hp).trans (List.perm_append_comm (l₁:=[l[i]]) (l₂:=l.take i))))
    obtain ⟨K,hK⟩:=spec_inner out (l.getD i 0) l i hi hl (by omega) _ hnext;refine ⟨K+1,fun k hk=>?_⟩;obtain ⟨m,rfl⟩:∃m,k=m+1:=⟨k-1,by omega⟩;simp only [spec_Recency.l0];have hrd:rd l (i:Int)=l.getD i 0:=by simp [rd]
    rw [if_pos (by omega),if_pos (by omega),if_pos (by omega),hrd];exact hK m (by omega)
  obtain ⟨K,hK⟩:=key 0 (Nat.zero_le _) [] rfl List.Pairwise.nil (List.Perm.refl _);refine ⟨K,fun k hk=>?_⟩;dsimp only
  unfold spec_Recency.f recencyL
  rw [if_neg (by omega),if_neg c];exact hK k hk
theorem recencyL_length (l:List Int):(recencyL l).length≤1000:=by
 unfold recencyL
 split
 ·simp
 ·rw [List.length_reverse,List.length_mergeSort];omega
end Go.Proofs.YtejjlkbbnhpbdaaGreat.Pure
namespace Go.Proofs.YtejjlkbbnhpbdaaGreat.Pure
open Go.RowKit Go.Proofs.YtejjlkbbnhpbdaaGreat.P Go.Proofs.YtejjlkbbnhpbdaaGreatW.PrintWords Go.Proofs.YtejjlkbbnhpbdaaGreatW.PrintLast Go.Proofs.YtejjlkbbnhpbdaaGreatX
set_option linter.unusedVariables false
set_option linter.unusedSimpArgs false
def cmpT:List Int→List Int→Int
 | [],[]=>0
 | [],_::_=>-1
 | _::_,[]=>1
 | x::xs,y::ys=>if x<y then -1 else if y<x then 1 else cmpT xs ys
theorem cmpInt_now (x y:Int):cmp_Compare_int.f x y=some (if x<y then -1 else if x>y then 1 else 0):=by
 unfold cmp_Compare_int.f cmp_isNaN_int.f
 have e1:(x != x)=false:=by simp
 have e2:(y != y)=false:=by simp
 rw [e1,e2];simp only [Option.bind_some];rw [if_neg (by simp),if_neg (by simp)];by_cases c:x<y
 ·rw [if_pos c,if_pos c]
 ·rw [if_neg c,if_neg c];by_cases d:x>y
  ·rw [if_pos d,if_pos d]
  ·rw [if_neg d,if_neg d]
theorem compare_ev (a b:List Int) (ha:a.length≤9223372036854775807):Ev (fun k=>slices_Compare_int_int.f k a b) (cmpT a b):=by
 have key:∀i,i≤a.length→i≤b.length→Ev (fun k=>slices_Compare_int_int.l0 k a b a (a.length:Int) (i:Int)) (cmpT (a.drop i) (b.drop i)):=by
  refine up_ind ?_ ?_
  ·intro hb;rw [List.drop_length];refine Ev.step (fun k=>by simp only [slices_Compare_int_int.l0];exact rfl) ?_;refine Ev.ifF (by omega) ?_;by_cases c:a.length<b.length
   ·refine Ev.ifT (by omega) ?_;rw [List.drop_eq_getElem_cons c];exact Ev.now _
   ·refine Ev.ifF (by omega) ?_;rw [List.drop_of_length_le (by omega)];exact Ev.now _
  ·intro i hi ih hb;rw [List.drop_eq_getElem_cons hi];refine Ev.step (fun k=>by simp only [slices_Compare_int_int.l0,wrap_succ hi ha];exact rfl) ?_;refine Ev.ifT (by omega) (Ev.ifT (by omega) (Ev.ifT (by omega) ?_));by_cases c:i<b.length
   ·refine Ev.ifF (by omega) (Ev.ifT (by omega) ?_);rw [List.drop_eq_getElem_cons c];have ea:rd a (i:Int)=a[i]:=by simp [rd,hi]
    have eb:rd b (i:Int)=b[i]:=by simp [rd,c]
    rw [ea,eb];refine Ev.bindE (cmpInt_now _ _) ?_;unfold cmpT
    by_cases d:a[i]<b[i]
    ·rw [if_pos d,if_pos d];exact Ev.ifF (by omega) (Ev.now _)
    ·rw [if_neg d,if_neg d];by_cases e:b[i]<a[i]
     ·rw [if_pos e,if_pos e];exact Ev.ifF (by omega) (Ev.now _)
     ·rw [if_neg e,if_neg e];exact Ev.ifT rfl (ih (by omega))
   ·refine Ev.ifT (by omega) ?_;rw [List.drop_of_length_le (show b.length≤i by omega)];exact Ev.now _
 have:=key 0 (Nat.zero_le _) (Nat.zero_le _)
 simpa [slices_Compare_int_int.f] using this
def Alike (v c:Int):Prop:=0<v∧0<c∨v=0∧c=0∨v<0∧c<0
theorem tags_ev (a b:List Int) (ha:a.length≤4611686018427387904) (hb:b.length≤4611686018427387904):∃v,Ev (fun k=>spec_l5Tags.f k a b) v∧Alike v (cmpT a b):=by
 have key:∀i,i≤a.length→i≤b.length→∃v,Ev (fun k=>spec_l5Tags.l0 k a b (i:Int)) v∧Alike v (cmpT (a.drop i) (b.drop i)):=by
  have stop:∀i:Nat,Ev (fun k=>spec_l5Tags.j1 k a b (i:Int) false) (wrap64 ((a.length:Int)-(b.length:Int))):=by
   intro i;refine Ev.step (fun k=>by simp only [spec_l5Tags.j1];exact rfl) ?_;exact Ev.ifF (by simp) (Ev.now _)
  have hw:wrap64 ((a.length:Int)-(b.length:Int))=(a.length:Int)-(b.length:Int):=by unfold wrap64;omega
  rw [hw] at stop;refine up_ind ?_ ?_
  ·intro hbl;refine ⟨_,Ev.step (fun k=>by simp only [spec_l5Tags.l0];exact rfl) (Ev.ifF (by omega) (stop _)),?_⟩;rw [List.drop_length];by_cases c:a.length<b.length
   ·rw [List.drop_eq_getElem_cons c];exact Or.inr (Or.inr ⟨by omega,by unfold cmpT;omega⟩)
   ·rw [List.drop_of_length_le (by omega)];exact Or.inr (Or.inl ⟨by omega,rfl⟩)
  ·intro i hi ih hbl;by_cases c:i<b.length
   ·have ea:rd a (i:Int)=a[i]:=by simp [rd,hi]
    have eb:rd b (i:Int)=b[i]:=by simp [rd,c]
    have hj:∀v,Ev (fun k=>if a[i]<b[i] then some (-1) else (if a[i]>b[i] then some 1 else spec_l5Tags.l0 k a b ((i+1:Nat):Int))) v→Ev (fun k=>spec_l5Tags.l0 k a b (i:Int)) v:=by
     intro v hv;refine Ev.step (fun k=>by simp only [spec_l5Tags.l0];exact rfl) (Ev.ifT (by omega) ?_);rw [decide_eq_true (show (i:Int)<(b.length:Int) by omega)];refine Ev.step (fun k=>by simp only [spec_l5Tags.j1,wrap_succ hi (show a.length≤9223372036854775807 by omega)];exact rfl) ?_;refine Ev.ifT (by trivial) (Ev.ifT (by omega) (Ev.ifT (by omega) (Ev.ifT (by omega) ?_)));rw [ea,eb];exact hv
    rw [List.drop_eq_getElem_cons hi,List.drop_eq_getElem_cons c];unfold cmpT
    by_cases d:a[i]<b[i]
    ·rw [if_pos d];exact ⟨-1,hj _ (Ev.ifT d (Ev.now _)),Or.inr (Or.inr ⟨by omega,by omega⟩)⟩
    ·rw [if_neg d];by_cases e:b[i]<a[i]
     ·rw [if_pos e];exact ⟨1,hj _ (Ev.ifF d (Ev.ifT e (Ev.now _))),Or.inl ⟨by omega,by omega⟩⟩
     ·rw [if_neg e];obtain ⟨v,h1,h2⟩:=ih (by omega);exact ⟨v,hj _ (Ev.ifF d (Ev.ifF e h1)),h2⟩
   ·refine ⟨(a.length:Int)-(b.length:Int),Ev.step (fun k=>by simp only [spec_l5Tags.l0];exact rfl) (Ev.ifT (by omega) ?_),?_⟩
    ·rw [decide_eq_false (show ¬(i:Int)<(b.length:Int) by omega)];exact stop _
    ·rw [List.drop_eq_getElem_cons hi,List.drop_of_length_le (show b.length≤i by omega)];exact Or.inl ⟨by omega,by unfold cmpT;omega⟩
 obtain ⟨v,h1,h2⟩:=key 0 (Nat.zero_le _) (Nat.zero_le _);exact ⟨v,by simpa [spec_l5Tags.f] using h1,by simpa using h2⟩
def befB (R:List S58) (r1:Int) (t1:List Int) (r2:Int) (t2:List Int):Bool:=
 if (rd_T58 R r1).f1=(rd_T58 R r2).f1 then
  (if cmpT (recencyL t1) (recencyL t2)=0 then (if r1=r2 then decide (cmpT t1 t2<0) else decide (r1<r2)) else decide (0<cmpT (recencyL t1) (recencyL t2)))
 else decide ((rd_T58 R r2).f1<(rd_T58 R r1).f1)
theorem before_both (R:List S58) (r1:Int) (t1:List Int) (r2:Int) (t2:List Int) (h1:0≤r1) (g1:r1<(R.length:Int)) (h2:0≤r2) (g2:r2<(R.length:Int)) (hR:R.length≤1048576) (hl1:t1.length≤1048576) (hl2:t2.length≤1048576):
  Ev (fun k=>spec_l5Before.f k R r1 t1 r2 t2) (befB R r1 t1 r2 t2)∧Ev (fun k=>impl_before.f k R r1 t1 r2 t2) (befB R r1 t1 r2 t2):=by
 have q1:=recencyL_length t1;have q2:=recencyL_length t2;unfold befB
 refine ⟨?_,?_⟩
 ·refine Ev.congr (fun k=>by unfold spec_l5Before.f;exact rfl) ?_;refine Ev.ifT h1 (Ev.ifT g1 (Ev.ifT h2 (Ev.ifT g2 ?_)));by_cases c:(rd_T58 R r1).f1=(rd_T58 R r2).f1
  ·rw [if_pos c];refine Ev.ifT c (Ev.bind (specRecency_some t1 hl1) (Ev.bind (specRecency_some t2 hl2) ?_));obtain ⟨v,e1,e2⟩:=tags_ev (recencyL t1) (recencyL t2) (by omega) (by omega);refine Ev.bind e1 ?_;by_cases d:cmpT (recencyL t1) (recencyL t2)=0
   ·rw [if_pos d];refine Ev.ifT (by unfold Alike at e2;omega) ?_;by_cases e:r1=r2
    ·rw [if_pos e];obtain ⟨u,e3,e4⟩:=tags_ev t1 t2 (by omega) (by omega);refine Ev.ifT e (Ev.bind e3 ?_);refine Ev.as (Ev.now _) ?_;unfold Alike at e4
     exact decide_eq_decide.2 (by omega)
    ·rw [if_neg e];exact Ev.ifF e (Ev.now _)
   ·rw [if_neg d];refine Ev.ifF (by unfold Alike at e2;omega) ?_;refine Ev.as (Ev.now _) ?_;unfold Alike at e2
    exact decide_eq_decide.2 (by omega)
  ·rw [if_neg c];exact Ev.ifF c (Ev.now _)
 ·refine Ev.congr (fun k=>by unfold impl_before.f;exact rfl) ?_;refine Ev.ifT h1 (Ev.ifT g1 (Ev.ifT h2 (Ev.ifT g2 ?_)));by_cases c:(rd_T58 R r1).f1=(rd_T58 R r2).f1
  ·rw [if_pos c];refine Ev.ifT c (Ev.bindE rfl (Ev.bindE rfl ?_));refine Ev.bind (compare_ev _ _ (by omega)) ?_;by_cases d:cmpT (recencyL t1) (recencyL t2)=0
   ·rw [if_pos d];refine Ev.ifT d ?_;by_cases e:r1=r2
    ·rw [if_pos e];refine Ev.bind (Ev.congr (fun k=>by unfold impl_cmpInst.f;exact rfl) (Ev.ifT e (Ev.bind (compare_ev t1 t2 (by omega)) (Ev.now _)))) ?_;exact Ev.now _
    ·rw [if_neg e];refine Ev.bind (Ev.congr (fun k=>by unfold impl_cmpInst.f;exact rfl) (Ev.ifF e (Ev.now _))) ?_;refine Ev.as (Ev.now _) ?_;have hw:wrap64 (r1-r2)=r1-r2:=by unfold wrap64;omega
     rw [hw];exact decide_eq_decide.2 (by omega)
   ·rw [if_neg d];exact Ev.ifF d (Ev.now _)
  ·rw [if_neg c];exact Ev.ifF c (Ev.now _)
def thereB (n:Nat) (r:Int) (t:List Int):Bool:=decide (0≤r)&&(decide (r<(n:Int))&&decide (t.length≤3))
theorem there_spec (R:List S58) (r:Int) (t:List Int):spec_l5There.f R r t=some (thereB R.length r t):=by
 unfold spec_l5There.f thereB
 by_cases c:0≤r
 ·rw [if_pos c];by_cases d:r<(R.length:Int)
  ·rw [if_pos d];simp only [decide_eq_true c,decide_eq_true d,Bool.true_and,Option.some.injEq];exact decide_eq_decide.2 (by omega)
  ·rw [if_neg d];simp only [decide_eq_true c,decide_eq_false d,Bool.true_and,Bool.false_and]
 ·rw [if_neg c];simp only [decide_eq_false c,Bool.false_and]
theorem there_impl (R:List S58) (r:Int) (t:List Int):impl_there.f R r t=some (thereB R.length r t):=there_spec R r t
theorem thereB_iff {n:Nat} {r:Int} {t:List Int} (h:thereB n r t=true):0≤r∧r<(n:Int)∧t.length≤3:=by
 unfold thereB at h
 simp only [Bool.and_eq_true,decide_eq_true_eq] at h;exact ⟨h.1,h.2.1,h.2.2⟩
theorem checked_both (R:List S58) (hsz:∀q,q∈R→RuleSz q):∃b:Bool,Ev (fun k=>spec_l2Checked.f k R) b∧Ev (fun k=>impl_checked.f k R) b∧
  (b=true→R.length≤16∧∀j,j<R.length→RuleOK (R.getD j z58)∧memS (R.getD j z58).f0 (namesB R j)=false):=by
 obtain ⟨y,h1,h2,h3⟩:=check_both R hsz;rcases h3 with ⟨rfl,h4⟩|h4
 ·refine ⟨true,?_,?_,fun _=>h4⟩
  ·refine Ev.congr (fun k=>by unfold spec_l2Checked.f;exact rfl) (Ev.bind h1 ?_);exact Ev.as (Ev.now _) rfl
  ·refine Ev.congr (fun k=>by unfold impl_checked.f;exact rfl) (Ev.bind h2 ?_);exact Ev.as (Ev.now _) rfl
 ·have hf:(y.1==0)=false:=by simp only [beq_eq_false_iff_ne];omega
  refine ⟨false,?_,?_,fun h=>absurd h (by simp)⟩
  ·refine Ev.congr (fun k=>by unfold spec_l2Checked.f;exact rfl) (Ev.bind h1 ?_);refine Ev.as (Ev.now _) ?_;rw [hf];rfl
  ·refine Ev.congr (fun k=>by unfold impl_checked.f;exact rfl) (Ev.bind h2 ?_);exact Ev.as (Ev.now _) hf
end Go.Proofs.YtejjlkbbnhpbdaaGreat.Pure
namespace Go.Proofs.YtejjlkbbnhpbdaaGreat.Pure
open Go.RowKit Go.Proofs.YtejjlkbbnhpbdaaGreat.P Go.Proofs.YtejjlkbbnhpbdaaGreatW.PrintWords Go.Proofs.YtejjlkbbnhpbdaaGreatW.PrintLast Go.Proofs.YtejjlkbbnhpbdaaGreatX
set_option linter.unusedVariables false
set_option linter.unusedSimpArgs false
open HeapT
theorem cmpT_self:∀a:List Int,cmpT a a=0
 | []=>rfl
 | x::xs=>by unfold cmpT;rw [if_neg (by omega),if_neg (by omega)];exact cmpT_self xs
theorem cmpT_swap:∀a b:List Int,cmpT b a=- cmpT a b
 | [],[]=>rfl
 | [],_::_=>rfl
 | _::_,[]=>rfl
 | x::xs,y::ys=>by
  unfold cmpT
  by_cases c:x<y
  ·rw [if_pos c,if_neg (by omega),if_pos c];rfl
  ·by_cases d:y<x
   ·simp [c,d]
   ·rw [if_neg c,if_neg d,if_neg d,if_neg c];exact cmpT_swap xs ys
theorem cmpT_zero:∀a b:List Int,cmpT a b=0→a=b
 | [],[],_=>rfl
 | [],_::_,h=>by unfold cmpT at h;omega
 | _::_,[],h=>by unfold cmpT at h;omega
 | x::xs,y::ys,h=>by
  unfold cmpT at h
  by_cases c:x<y
  ·rw [if_pos c] at h;omega
  ·by_cases d:y<x
   ·rw [if_neg c,if_pos d] at h;omega
   ·rw [if_neg c,if_neg d] at h;rw [cmpT_zero xs ys h,show x=y by omega]
theorem cmpT_lt:∀a b c:List Int,cmpT a b<0→cmpT b c<0→cmpT a c<0
 | [],_,[],h1,h2=>by
  rename_i b
  cases b with
  | nil=>exact h1
  | cons y ys=>unfold cmpT at h2;omega
 | [],_,_::_,_,_=>by unfold cmpT;omega
 | _::_,[],_,h1,_=>by unfold cmpT at h1;omega
 | _::_,_::_,[],_,h2=>by unfold cmpT at h2;omega
 | x::xs,y::ys,z::zs,h1,h2=>by
  unfold cmpT at h1 h2 ⊢
  by_cases c:x<y
  ·by_cases d:y<z
   ·rw [if_pos (by omega)];omega
   ·by_cases e:z<y
    ·rw [if_neg d,if_pos e] at h2;omega
    ·rw [if_pos (by omega)];omega
  ·by_cases c2:y<x
   ·rw [if_neg c,if_pos c2] at h1;omega
   ·rw [if_neg c,if_neg c2] at h1;by_cases d:y<z
    ·rw [if_pos (by omega)];omega
    ·by_cases e:z<y
     ·rw [if_neg d,if_pos e] at h2;omega
     ·rw [if_neg d,if_neg e] at h2;rw [if_neg (by omega),if_neg (by omega)];exact cmpT_lt xs ys zs h1 h2
def ltI (R:List S58) (x y:S31):Bool:=befB R x.f0 x.f1 y.f0 y.f1
theorem ltI_iff (R:List S58) (x y:S31):ltI R x y=true↔
  ((rd_T58 R x.f0).f1=(rd_T58 R y.f0).f1∧((cmpT (recencyL x.f1) (recencyL y.f1)=0∧((x.f0=y.f0∧cmpT x.f1 y.f1<0)∨x.f0<y.f0))∨0<cmpT (recencyL x.f1) (recencyL y.f1)))∨(rd_T58 R y.f0).f1<(rd_T58 R x.f0).f1:=by
 unfold ltI befB
 by_cases c:(rd_T58 R x.f0).f1=(rd_T58 R y.f0).f1
 ·rw [if_pos c];by_cases d:cmpT (recencyL x.f1) (recencyL y.f1)=0
  ·rw [if_pos d];by_cases e:x.f0=y.f0
   ·rw [if_pos e,decide_eq_true_eq];omega
   ·rw [if_neg e,decide_eq_true_eq];omega
  ·rw [if_neg d,decide_eq_true_eq];omega
 ·rw [if_neg c,decide_eq_true_eq];omega
theorem ltI_irr (R:List S58) (x:S31):ltI R x x=false:=by
 cases h:ltI R x x with
 | false=>rfl
 | true=>
  have:=(ltI_iff R x x).1 h
  have h1:=cmpT_self (recencyL x.f1);have h2:=cmpT_self x.f1;omega
theorem ltI_tr (R:List S58) (x y z:S31) (h1:ltI R x y=true) (h2:ltI R y z=true):ltI R x z=true:=by
 have h1:=(ltI_iff R x y).1 h1;have h2:=(ltI_iff R y z).1 h2;refine (ltI_iff R x z).2 ?_;have a1:cmpT (recencyL x.f1) (recencyL y.f1)=0→cmpT (recencyL x.f1) (recencyL z.f1)=cmpT (recencyL y.f1) (recencyL z.f1):=fun e=>by rw [cmpT_zero _ _ e]
 have a2:cmpT (recencyL y.f1) (recencyL z.f1)=0→cmpT (recencyL x.f1) (recencyL z.f1)=cmpT (recencyL x.f1) (recencyL y.f1):=fun e=>by rw [cmpT_zero _ _ e]
 have a3:0<cmpT (recencyL x.f1) (recencyL y.f1)→0<cmpT (recencyL y.f1) (recencyL z.f1)→0<cmpT (recencyL x.f1) (recencyL z.f1):=fun e1 e2=>by
  have s1:=cmpT_swap (recencyL x.f1) (recencyL y.f1);have s2:=cmpT_swap (recencyL y.f1) (recencyL z.f1);have s3:=cmpT_swap (recencyL x.f1) (recencyL z.f1);have:=cmpT_lt _ _ _ (show cmpT (recencyL z.f1) (recencyL y.f1)<0 by omega) (show cmpT (recencyL y.f1) (recencyL x.f1)<0 by omega)
  omega
 have a4:=cmpT_lt x.f1 y.f1 z.f1;generalize cmpT (recencyL x.f1) (recencyL y.f1)=p at *;generalize cmpT (recencyL y.f1) (recencyL z.f1)=q at *;generalize cmpT (recencyL x.f1) (recencyL z.f1)=r at *;generalize cmpT x.f1 y.f1=p' at *;generalize cmpT y.f1 z.f1=q' at *;generalize cmpT x.f1 z.f1=r' at *;generalize (rd_T58 R x.f0).f1=sx at *;generalize (rd_T58 R y.f0).f1=sy at *;generalize (rd_T58 R z.f0).f1=sz at *;omega
theorem ltI_anti (R:List S58) (x y:S31) (h1:ltI R x y=false) (h2:ltI R y x=false):x=y:=by
 have g1:¬ltI R x y=true:=by rw [h1];simp
 have g2:¬ltI R y x=true:=by rw [h2];simp
 rw [ltI_iff] at g1 g2;have s1:=cmpT_swap (recencyL x.f1) (recencyL y.f1);have s2:=cmpT_swap x.f1 y.f1;have e0:x.f0=y.f0:=by omega
 have e1:cmpT x.f1 y.f1=0:=by omega
 have e1:=cmpT_zero _ _ e1;cases x;cases y
 simp only at e0 e1
 rw [e0,e1]
theorem ltI_ntr (R:List S58) (a b c:S31) (h1:ltI R b a=false) (h2:ltI R c b=false):ltI R c a=false:=by
 cases h:ltI R c a with
 | false=>rfl
 | true=>
  cases h3:ltI R a b with
  | true=>have:=ltI_tr R c a b h h3;rw [h2] at this;cases this
  | false=>
   have:=ltI_anti R a b h3 h1
   subst this;rw [h2] at h;cases h
def ltP (R:List S58) (p q:Pr):Bool:=ltI R p.1 q.1
theorem ltP_ord (R:List S58):HOrd (ltP R):=by
 refine ⟨fun a b h=>?_,fun a b c=>ltI_tr R _ _ _,fun a b c=>ltI_ntr R _ _ _⟩;cases h2:ltP R b a with
 | false=>rfl
 | true=>
  have:=ltI_tr R _ _ _ h h2
  rw [ltI_irr] at this;cases this
theorem perm_sorted_eq {α : Type} {lt : α→α→Bool} (anti:∀a b,lt a b=false→lt b a=false→a=b):∀ {l1 l2:List α},l1.Perm l2→l1.Pairwise (fun a b=>lt b a=false)→l2.Pairwise (fun a b=>lt b a=false)→l1=l2
 | [],l2,h,_,_=>(List.nil_perm.1 h).symm
 | a::l1,[],h,_,_=>absurd (List.perm_nil.1 h) (by simp)
 | a::l1,b::l2,h,h1,h2=>by
  have hab:a=b:=by
   rcases List.mem_cons.1 (h.mem_iff.1 List.mem_cons_self) with e|e
   ·exact e
   ·rcases List.mem_cons.1 (h.mem_iff.2 List.mem_cons_self) with e2|e2
    ·exact e2.symm
    ·exact anti a b ((List.pairwise_cons.1 h2).1 a e) ((List.pairwise_cons.1 h1).1 b e2)
  subst hab;rw [perm_sorted_eq anti (List.Perm.cons_inv h) (List.pairwise_cons.1 h1).2 (List.pairwise_cons.1 h2).2]
theorem rdI_of (xs:List S31) (i:Nat):rd_T31 xs (i:Int)=xs.getD i z31:=by simp [rd_T31]
def GoodI (R:List S58) (x:S31):Prop:=0≤x.f0∧x.f0<(R.length:Int)∧x.f1.length≤3
theorem getD_memI (xs:List S31) (i:Nat) (h:i<xs.length):xs.getD i z31∈xs:=by
 rw [List.getD_eq_getElem?_getD,List.getElem?_eq_getElem h];exact List.getElem_mem h
theorem best_at (R:List S58) (hR:R.length≤1048576) (L out:List S31) (hL:L.length≤1000) (hg:∀x,x∈L→GoodI R x) (ho:out.length≤1000):
  ∀i,i≤L.length→∀at_,at_<L.length→(∀j,j<i→ltI R (L.getD j z31) (L.getD at_ z31)=false)→
   ∃m,m<L.length∧(∀j,j<L.length→ltI R (L.getD j z31) (L.getD m z31)=false)∧
    ∀r,Ev (fun k=>spec_Agenda.l1 k R ((L.set m (L.getD (L.length-1) z31)).take (L.length-1)) (out++[L.getD m z31])) r→Ev (fun k=>spec_Agenda.l2 k R L out (at_:Int) (L.length:Int) (i:Int)) r:=by
 refine up_ind ?_ ?_
 ·intro at_ ha hm;refine ⟨at_,ha,hm,fun r h=>?_⟩;have w:wrap64 ((L.length:Int)-1)=((L.length-1:Nat):Int):=by unfold wrap64;omega
  refine Ev.step (fun k=>by simp only [spec_Agenda.l2,w,rdI_of,Int.toNat_natCast];exact rfl) ?_;exact Ev.ifF (by omega) (Ev.ifT (by omega) (Ev.ifT (by omega) (Ev.ifT (by omega) (Ev.ifT (by omega) (Ev.ifT (by omega) (Ev.ifT (by omega) h))))))
 ·intro i hi ih at_ ha hm;have g1:=hg _ (getD_memI L i hi);have g2:=hg _ (getD_memI L at_ ha);have hb:=(before_both R (L.getD i z31).f0 (L.getD i z31).f1 (L.getD at_ z31).f0 (L.getD at_ z31).f1 g1.1 g1.2.1 g2.1 g2.2.1 hR (by have:=g1.2.2;omega) (by have:=g2.2.2;omega)).1;have w:wrap64 ((i:Int)+1)=((i+1:Nat):Int):=by unfold wrap64;omega
  cases hc:ltI R (L.getD i z31) (L.getD at_ z31) with
  | true=>
   have hc':befB R (L.getD i z31).f0 (L.getD i z31).f1 (L.getD at_ z31).f0 (L.getD at_ z31).f1=true:=hc
   rw [hc'] at hb
   obtain ⟨m,h1,h2,h3⟩:=ih i hi (fun j hj=>by
    rcases Nat.lt_or_ge j i with h|h
    ·cases e:ltI R (L.getD j z31) (L.getD i z31) with
     | false=>rfl
     | true=>have:=ltI_tr R _ _ _ e hc;rw [hm j h] at this;cases this
    ·rw [show j=i by omega];exact ltI_irr R _)
   refine ⟨m,h1,h2,fun r h=>?_⟩;refine Ev.step (fun k=>by simp only [spec_Agenda.l2,w,rdI_of,Int.toNat_natCast];exact rfl) ?_;exact Ev.ifT (by omega) (Ev.ifT (by omega) (Ev.ifT (by omega) (Ev.ifT (by omega) (Ev.ifT (by omega) (Ev.bind hb (Ev.ifT rfl (h3 r h)))))))
  | false=>
   have hc':befB R (L.getD i z31).f0 (L.getD i z31).f1 (L.getD at_ z31).f0 (L.getD at_ z31).f1=false:=hc
   rw [hc'] at hb
   obtain ⟨m,h1,h2,h3⟩:=ih at_ ha (fun j hj=>by
    rcases Nat.lt_or_ge j i with h|h
    ·exact hm j h
    ·rw [show j=i by omega];exact hc)
   refine ⟨m,h1,h2,fun r h=>?_⟩;refine Ev.step (fun k=>by simp only [spec_Agenda.l2,w,rdI_of,Int.toNat_natCast];exact rfl) ?_;exact Ev.ifT (by omega) (Ev.ifT (by omega) (Ev.ifT (by omega) (Ev.ifT (by omega) (Ev.ifT (by omega) (Ev.bind hb (Ev.ifF Bool.false_ne_true (h3 r h)))))))
theorem take_out {α : Type} (z : α) (L:List α) (n m:Nat) (hn:L.length=n+1) (hm:m<L.length):(L.getD m z::(L.set m (L.getD n z)).take n).Perm L:=by
 have h1:=split_last (z:=z) (swp z L m n) n (by rw [swp_length];exact hn);have h2:=swp_perm z L m n hm (by omega);rw [swp_get z L m n n hm (by omega),if_pos rfl] at h1
 have e:(swp z L m n).take n=(L.set m (L.getD n z)).take n:=by
  unfold swp
  rw [List.take_set_of_le (Nat.le_refl n)]
 rw [e] at h1;rw [h1] at h2;exact (List.perm_append_comm (l₁:=[L.getD m z])).trans h2
theorem chosen (R:List S58) (hR:R.length≤1048576):∀(n:Nat) (L out:List S31),L.length=n→(∀x,x∈L→GoodI R x)→out.length+n≤1000→
  ∃ys,ys.Perm L∧ys.Pairwise (fun a b=>ltI R b a=false)∧Ev (fun k=>spec_Agenda.l1 k R L out) (out++ys)
 | 0,L,out,hl,_,_=>by
  have:L=[]:=by simpa using hl
  subst this;refine ⟨[],List.Perm.refl _,List.Pairwise.nil,?_⟩;refine Ev.step (fun k=>by simp only [spec_Agenda.l1];exact rfl) ?_;exact Ev.ifF (by simp) (Ev.as (Ev.now _) (by simp))
 | n+1,L,out,hl,hg,ho=>by
  obtain ⟨m,h1,h2,h3⟩:=best_at R hR L out (by omega) hg (by omega) 0 (Nat.zero_le _) 0 (by omega) (fun j hj=>absurd hj (by omega));have e1:L.length-1=n:=by omega
  rw [e1] at h3;have hp:=take_out z31 L n m hl h1;have hsub:∀x,x∈(L.set m (L.getD n z31)).take n→x∈L:=fun x hx=>hp.mem_iff.1 (List.mem_cons_of_mem _ hx)
  obtain ⟨ys,g1,g2,g3⟩:=chosen R hR n ((L.set m (L.getD n z31)).take n) (out++[L.getD m z31]) (by rw [List.length_take,List.length_set];omega) (fun x hx=>hg x (hsub x hx)) (by rw [List.length_append,List.length_singleton];omega);refine ⟨L.getD m z31::ys,(g1.cons _).trans hp,List.Pairwise.cons (fun y hy=>?_) g2,?_⟩
  ·obtain ⟨j,hj,rfl⟩:=List.mem_iff_getElem.1 (hsub y (g1.mem_iff.1 hy));have:=h2 j hj
   rwa [show L.getD j z31=L[j] by simp [List.getD_eq_getElem?_getD,hj]] at this
  ·refine Ev.step (fun k=>by simp only [spec_Agenda.l1];exact rfl) ?_;refine Ev.ifT (by omega) ?_;have:=h3 _ g3
   rw [List.append_assoc,List.singleton_append] at this;exact this
theorem gathered (R:List S58) (I:List S31) (hI:I.length≤1000) (r:List S31):
  ∀i,i≤I.length→∀left,left.length=i→((I.drop i).any (fun x=>!thereB R.length x.f0 x.f1)=true→r=[])→((I.drop i).any (fun x=>!thereB R.length x.f0 x.f1)=false→Ev (fun k=>spec_Agenda.l1 k R (left++I.drop i) []) r)→
   Ev (fun k=>spec_Agenda.l0 k R left I (I.length:Int) (i:Int)) r:=by
 refine up_ind ?_ ?_
 ·intro left hl h1 h2;rw [List.drop_length,List.append_nil] at h2;refine Ev.step (fun k=>by simp only [spec_Agenda.l0];exact rfl) ?_;exact Ev.ifF (by omega) (h2 rfl)
 ·intro i hi ih left hl h1 h2
  have ed:I.drop i=I.getD i z31::I.drop (i+1):=by
   rw [List.drop_eq_getElem_cons hi];simp [List.getD_eq_getElem?_getD,hi]
  rw [ed,List.any_cons] at h1 h2;have w:wrap64 ((i:Int)+1)=((i+1:Nat):Int):=by unfold wrap64;omega
  refine Ev.step (fun k=>by simp only [spec_Agenda.l0,w,rdI_of];exact rfl) ?_;refine Ev.ifT (by omega) (Ev.ifT (by omega) (Ev.ifT (by omega) (Ev.bindE (there_spec R _ _) ?_)));cases hc:thereB R.length (I.getD i z31).f0 (I.getD i z31).f1 with
  | false=>
   rw [hc] at h1;refine Ev.ifF Bool.false_ne_true ?_;rw [h1 (by simp)];exact Ev.now _
  | true=>
   rw [hc] at h1 h2;simp only [Bool.not_true,Bool.false_or] at h1 h2;have ht:=thereB_iff hc
   have hl4:spec_l4Inst.f (I.getD i z31).f0 (I.getD i z31).f1=some ((I.getD i z31).f0,(I.getD i z31).f1):=by
    unfold spec_l4Inst.f
    rw [if_pos (by rw [List.length_nil];omega),List.nil_append]
   refine Ev.ifT rfl (Ev.bindE hl4 (Ev.ifT (by omega) ?_));refine ih (left++[I.getD i z31]) (by rw [List.length_append,List.length_singleton];omega) h1 (fun h=>?_);have:=h2 h
   rw [List.append_assoc,List.singleton_append];exact this
theorem agenda_spec (R:List S58) (I:List S31) (cb:Bool) (h1:Ev (fun k=>spec_l2Checked.f k R) cb) (hR:cb=true→R.length≤16):
  Ev (fun k=>spec_Agenda.f k R I) (agendaL (ltP R) cb (fun x=>thereB R.length x.f0 x.f1) I):=by
 refine Ev.congr (fun k=>by unfold spec_Agenda.f;exact rfl) ?_;unfold agendaL
 by_cases c:1000<I.length
 ·rw [if_pos c];refine Ev.ifT (by omega) ?_;refine Ev.step (fun k=>by simp only [spec_Agenda.j0];exact rfl) ?_;exact Ev.ifT (by trivial) (Ev.now _)
 ·rw [if_neg c];refine Ev.ifF (by omega) (Ev.bind h1 ?_);cases cb with
  | false=>
   rw [if_pos rfl];refine Ev.step (fun k=>by simp only [spec_Agenda.j0];exact rfl) ?_;exact Ev.ifT (by rfl) (Ev.now _)
  | true=>
   rw [if_neg (by simp)];refine Ev.step (fun k=>by simp only [spec_Agenda.j0];exact rfl) ?_;refine Ev.ifF (by simp) ?_;refine gathered R I (by omega) _ 0 (Nat.zero_le _) [] rfl (fun h=>?_) (fun h=>?_)
   ·rw [List.drop_zero] at h;rw [if_pos h]
   ·rw [List.drop_zero] at h ⊢;rw [if_neg (by rw [h];simp),List.nil_append]
    have hg:∀x,x∈I→GoodI R x:=fun x hx=>by
     have:=(List.any_eq_false.1 h) x hx
     have ht:thereB R.length x.f0 x.f1=true:=by simpa using this
     exact thereB_iff ht
    have hR:=hR rfl;obtain ⟨ys,g1,g2,g3⟩:=chosen R (by omega) I.length I [] rfl hg (by simp;omega);rw [List.nil_append] at g3;refine Ev.as g3 ?_;have hlen:(heapL (ltP R) I.zipIdx).length=I.length:=by rw [(heapL_perm _ _).length_eq,List.length_zipIdx]
    have d1:=drain_perm (lt:=ltP R) (z:=zP) I.length (heapL (ltP R) I.zipIdx) hlen;have d2:=drain_sorted (ltP_ord R) I.length (heapL (ltP R) I.zipIdx) hlen (by have:=heapL_heap (ltP_ord R) I.zipIdx;exact this);refine perm_sorted_eq (ltI_anti R) (g1.trans ?_) g2 ?_
    ·have:=((d1.trans (heapL_perm _ _)).map (·.1)).symm
     rwa [show I.zipIdx.map (·.1)=I from List.zipIdx_map_fst 0 I] at this
    ·rw [List.pairwise_map];exact d2
end Go.Proofs.YtejjlkbbnhpbdaaGreat.Pure
namespace Go.Proofs.YtejjlkbbnhpbdaaGreat.Pure
open Go.RowKit Go.Proofs.YtejjlkbbnhpbdaaGreat.P Go.Proofs.YtejjlkbbnhpbdaaGreatW.PrintWords Go.Proofs.YtejjlkbbnhpbdaaGreatW.PrintLast Go.Proofs.YtejjlkbbnhpbdaaGreatX
set_option linter.unusedVariables false
set_option linter.unusedSimpArgs false
def mkI:Int→Int→Int:=fun a _=>a
def mnI:Int→Nat:=fun _=>1
theorem cntI (xs:List Int):cntL mnI xs=xs.length:=by
 have:=cntL_const 1 xs
 rw [Nat.one_mul] at this;exact this
theorem markInts (xs:List Int) (a:Int) (hl:xs.length≤9223372036854775807) (h0:0≤a) (h1:a+cntL mnI xs≤4611686018427387904):Ev (fun k=>laws_markIntS.f k xs a) (a+cntL mnI xs,mkL mkI mnI a xs):=by
 refine mark_loop mkI mnI (fun k ys a i=>laws_markIntS.l0 k ys a i) ?_ ?_ xs a hl h0 h1
 ·intro d x t a r hl h0 h1 ih;unfold mnI at h1 ih
  have w0:wrap64 (a+1)=a+((1:Nat):Int):=by unfold wrap64;omega
  have wi:wrap64 ((d.length:Int)+1)=((d.length+1:Nat):Int):=by unfold wrap64;rw [len_mid] at hl;omega
  refine Ev.step (fun k=>by simp only [laws_markIntS.l0,w0,wi,Int.toNat_natCast,set_mid];exact rfl) ?_;exact Ev.ifT (by rw [len_mid];omega) (Ev.ifT (by omega) ih)
 ·intro d a;refine Ev.step (fun k=>by simp only [laws_markIntS.l0];exact rfl) ?_;exact Ev.ifF (by omega) (Ev.now _)
theorem heldInts (xs:List Int) (a:Int) (hl:xs.length≤9223372036854775807) (h0:0≤a) (h1:a+cntL mnI xs≤4611686018427387904):Ev (fun k=>laws_heldIntS.f k (mkL mkI mnI a xs) a) (a+cntL mnI xs):=by
 refine held_loop mkI mnI (fun k ys a i=>laws_heldIntS.l0 k ys a i) ?_ ?_ xs a hl h0 h1
 ·intro d x t a r hl h0 h1 ih;unfold mnI at h1 ih
  have w0:wrap64 (a+1)=a+((1:Nat):Int):=by unfold wrap64;omega
  have wi:wrap64 ((d.length:Int)+1)=((d.length+1:Nat):Int):=by unfold wrap64;rw [len_mid] at hl;omega
  refine Ev.step (fun k=>by simp only [laws_heldIntS.l0,w0,wi,rd,Int.toNat_natCast,rd_mid];exact rfl) ?_;refine Ev.ifT (by rw [len_mid];omega) (Ev.ifT (by omega) (Ev.ifT (by rfl) ih))
 ·intro d a;refine Ev.step (fun k=>by simp only [laws_heldIntS.l0];exact rfl) ?_;exact Ev.ifF (by omega) (Ev.now _)
def mkInst (a:Int) (x:S31):S31:=⟨a,mkL mkI mnI (a+1) x.f1⟩
def mnInst (x:S31):Nat:=1+cntL mnI x.f1
theorem markInsts:∀(xs:List S31) (a:Int),(∀x,x∈xs→x.f1.length≤9223372036854775807)→0≤a→a+cntL mnInst xs≤4611686018427387904→Ev (fun k=>laws_markInstS.f k xs a) (a+cntL mnInst xs,mkL mkInst mnInst a xs)
 | [],a,_,h0,h1=>by
  refine Ev.as (Ev.now (a,[])) ?_;simp [cntL,mkL]
 | x::xs,a,hl,h0,h1=>by
  rw [cntL_cons] at h1 ⊢;have w0:wrap64 (a+1)=a+1:=by unfold mnInst at h1;unfold wrap64;omega
  have hx:=markInts x.f1 (a+1) (hl x List.mem_cons_self) (by omega) (by unfold mnInst at h1;omega);have ih:=markInsts xs (a+1+cntL mnI x.f1) (fun y hy=>hl y (List.mem_cons_of_mem _ hy)) (by omega) (by unfold mnInst at h1 ⊢;omega);refine Ev.congr (fun k=>by unfold laws_markInstS.f laws_markInstS.r;simp only [w0];exact rfl) ?_;refine Ev.bind (g:=fun k=>laws_markIntS.f k x.f1 (a+1)) hx ?_;refine Ev.bind (g:=fun k=>laws_markInstS.r k xs (a+1+cntL mnI x.f1)) ih ?_;refine Ev.as (Ev.now _) ?_;rw [mkL];unfold mkInst
  have e:((mnInst x:Nat):Int)=1+(cntL mnI x.f1:Int):=by unfold mnInst;omega
  dsimp only
  rw [show a+1+(cntL mnI x.f1:Int)+(cntL mnInst xs:Int)=a+((mnInst x+cntL mnInst xs:Nat):Int) by omega,show a+1+(cntL mnI x.f1:Int)=a+(mnInst x:Int) by omega]
theorem heldInsts (xs:List S31) (a:Int) (hl:xs.length≤9223372036854775807) (h0:0≤a) (h1:a+cntL mnInst xs≤4611686018427387904):Ev (fun k=>laws_heldInstS.f k (mkL mkInst mnInst a xs) a) (a+cntL mnInst xs):=by
 refine held_loop mkInst mnInst (fun k ys a i=>laws_heldInstS.l0 k ys a i) ?_ ?_ xs a hl h0 h1
 ·intro d x t a r hl h0 h1 ih;unfold mnInst at h1 ih
  have w0:wrap64 (a+1)=a+1:=by unfold wrap64;omega
  have wi:wrap64 ((d.length:Int)+1)=((d.length+1:Nat):Int):=by unfold wrap64;rw [len_mid] at hl;omega
  have hx:=heldInts x.f1 (a+1) (by rw [cntI] at h1;omega) (by omega) (by omega);have e:a+((1+cntL mnI x.f1:Nat):Int)=a+1+(cntL mnI x.f1:Int):=by omega
  rw [e] at ih;refine Ev.step (fun k=>by simp only [laws_heldInstS.l0,w0,wi,rd_T31,Int.toNat_natCast,rd_mid];exact rfl) ?_;refine Ev.ifT (by rw [len_mid];omega) (Ev.ifT (by omega) (Ev.ifT (by rfl) (Ev.bind hx (Ev.ifF (by omega) ih))))
 ·intro d a;refine Ev.step (fun k=>by simp only [laws_heldInstS.l0];exact rfl) ?_;exact Ev.ifF (by omega) (Ev.now _)
end Go.Proofs.YtejjlkbbnhpbdaaGreat.Pure
namespace Go.Proofs.YtejjlkbbnhpbdaaGreat.Pure
open Go.RowKit Go.Proofs.YtejjlkbbnhpbdaaGreat.P Go.Proofs.YtejjlkbbnhpbdaaGreatW.PrintWords Go.Proofs.YtejjlkbbnhpbdaaGreatW.PrintLast Go.Proofs.YtejjlkbbnhpbdaaGreatX
set_option linter.unusedVariables false
set_option linter.unusedSimpArgs false
theorem sz_IntS (xs:List Int) (ol:xs.length≤9223372036854775807) (left:Int) (h0:0≤left) (h1:left≤1048576):laws_szIntS.f xs left=some (szv xs.length left):=by
 have e:wrap64 (left-(xs.length:Int))=left-(xs.length:Int):=wrap_left h0 h1 ol
 unfold laws_szIntS.f
 rw [e];by_cases c:left-(xs.length:Int)<0
 ·rw [if_pos c,szv_neg (by omega)]
 ·rw [if_neg c,szv_pos (by omega)]
theorem to_IntS (xs:List Int) (hs:xs.length≤1048576):Ev (fun k=>laws_toIntS.f k xs) xs:=by
 have key:=to_loop xs (0:Int) id (fun k out i=>laws_toIntS.l0 k xs out i) ?_ ?_ (List.replicate xs.length (0:Int)) List.length_replicate
 ·obtain ⟨K,hK⟩:=key;refine ⟨K,fun k hk=>?_⟩;dsimp only
  unfold laws_toIntS.f
  rw [if_pos (by omega),if_pos (by rw [Int.toNat_natCast];omega),Int.toNat_natCast];have:=hK k hk
  rw [List.map_id] at this;exact this
 ·intro i out r hi ho h;obtain ⟨K,hK⟩:=h;have hrd:rd xs (i:Int)=xs.getD i 0:=by simp [rd]
  refine ⟨K+1,fun k hk=>?_⟩;dsimp only
  obtain ⟨m,rfl⟩:∃m,k=m+1:=⟨k-1,by omega⟩;simp only [laws_toIntS.l0];rw [if_pos (by omega),if_pos (by omega),if_pos (by omega),hrd,wrap_succ hi (by omega),Int.toNat_natCast];exact hK m (by omega)
 ·intro out ho;refine ⟨1,fun k hk=>?_⟩;dsimp only
  obtain ⟨m,rfl⟩:∃m,k=m+1:=⟨k-1,by omega⟩;simp only [laws_toIntS.l0];rw [if_neg (by omega)]
theorem eq_IntS (xs:List Int) (hl:xs.length≤9223372036854775807):Ev (fun k=>laws_eqIntS.f k xs xs) true:=by
 have key:=eq_loop xs.length (fun k i=>laws_eqIntS.l0 k xs xs i) ?_ ?_
 ·obtain ⟨K,hK⟩:=key;refine ⟨K,fun k hk=>?_⟩;dsimp only
  unfold laws_eqIntS.f
  rw [if_pos (by trivial)];exact hK k hk
 ·intro i hi h;obtain ⟨K,hK⟩:=h;refine ⟨K+1,fun k hk=>?_⟩;dsimp only
  obtain ⟨m,rfl⟩:∃m,k=m+1:=⟨k-1,by omega⟩;simp only [laws_eqIntS.l0];rw [if_pos (by omega),if_pos (by omega),if_pos (by omega),if_pos (by trivial),wrap_succ hi hl];exact hK m (by omega)
 ·refine ⟨1,fun k hk=>?_⟩;dsimp only
  obtain ⟨m,rfl⟩:∃m,k=m+1:=⟨k-1,by omega⟩;simp only [laws_eqIntS.l0];rw [if_neg (by omega)]
def cvValue (x:S114):S104:=⟨x.f0,x.f1,x.f2⟩
def tzValue (x:S114):Nat:=x.f2.size
def okValue (x:S114):Prop:=okInt x.f0∧okInt x.f1∧x.f2.size≤9223372036854775807
theorem sz_Value (x:S114) (hok:okValue x) (left:Int) (h0:0≤left) (h1:left≤1048576):laws_szValue.f x.f0 x.f1 x.f2 left=some (szv (tzValue x) left):=by
 obtain ⟨o0,o1,o2⟩:=hok;have e2:wrap64 (left-(x.f2.size:Int))=left-(x.f2.size:Int):=wrap_left (by omega) (by omega) o2
 by_cases c2:left-(x.f2.size:Int)<0
 ·have hz:szv (tzValue x) left=-1:=szv_neg (by unfold tzValue;omega)
  rw [hz];unfold laws_szValue.f
  rw [e2,if_pos c2];try rfl
 ·skip;have hz:szv (tzValue x) left=(left-(x.f2.size:Int)):=by rw [szv_pos (by unfold tzValue;omega)];unfold tzValue;omega
  rw [hz];unfold laws_szValue.f
  rw [e2,if_neg c2];try rfl
theorem eq_Value (x:S104):laws_eqValue.f x.f0 x.f1 x.f2 x.f0 x.f1 x.f2=some true:=by
 unfold laws_eqValue.f
 rw [if_pos (by trivial)];rw [if_pos (by trivial)];rw [if_pos (by trivial)]
def cvTerm (x:S160):S134:=⟨x.f0,x.f1,x.f2,(cvValue x.f3)⟩
def tzTerm (x:S160):Nat:=x.f2.size+tzValue x.f3
def okTerm (x:S160):Prop:=okInt x.f0∧okInt x.f1∧x.f2.size≤9223372036854775807∧okValue x.f3
def tzTermS (xs:List S160):Nat:=xs.length+(xs.map tzTerm).sum
def okTermS (xs:List S160):Prop:=xs.length≤9223372036854775807∧∀x,x∈xs→okTerm x
theorem sz_Term (x:S160) (hok:okTerm x) (left:Int) (h0:0≤left) (h1:left≤1048576):laws_szTerm.f x.f0 x.f1 x.f2 x.f3.f0 x.f3.f1 x.f3.f2 left=some (szv (tzTerm x) left):=by
 obtain ⟨o0,o1,o2,o3⟩:=hok;have e2:wrap64 (left-(x.f2.size:Int))=left-(x.f2.size:Int):=wrap_left (by omega) (by omega) o2
 by_cases c2:left-(x.f2.size:Int)<0
 ·have hz:szv (tzTerm x) left=-1:=szv_neg (by unfold tzTerm;omega)
  rw [hz];unfold laws_szTerm.f
  rw [e2,if_pos c2];try rfl
 ·skip;have s3:=sz_Value x.f3 o3 (left-(x.f2.size:Int)) (by omega) (by omega);by_cases c3:(left-(x.f2.size:Int))<((tzValue x.f3:Nat):Int)
  ·have hz:szv (tzTerm x) left=-1:=szv_neg (by unfold tzTerm;omega)
   rw [hz];rw [szv_neg c3] at s3;unfold laws_szTerm.f
   rw [e2,if_neg c2];rw [s3];rfl
  ·have d3:((tzValue x.f3:Nat):Int)≤(left-(x.f2.size:Int)):=by omega
   rw [szv_pos d3] at s3;have hz:szv (tzTerm x) left=((left-(x.f2.size:Int))-((tzValue x.f3:Nat):Int)):=by rw [szv_pos (by unfold tzTerm;omega)];unfold tzTerm;omega
   rw [hz];unfold laws_szTerm.f
   rw [e2,if_neg c2];rw [s3];simp only [Option.bind_some];rw [if_neg (by omega)];try rfl
theorem to_Term (x:S160):laws_toTerm.f x.f0 x.f1 x.f2 x.f3.f0 x.f3.f1 x.f3.f2=some (x.f0,x.f1,x.f2,x.f3.f0,x.f3.f1,x.f3.f2):=rfl
theorem eq_Term (x:S134):laws_eqTerm.f x.f0 x.f1 x.f2 x.f3.f0 x.f3.f1 x.f3.f2 x.f0 x.f1 x.f2 x.f3.f0 x.f3.f1 x.f3.f2=some true:=by
 unfold laws_eqTerm.f
 rw [if_pos (by trivial)];rw [if_pos (by trivial)];rw [if_pos (by trivial)];rw [eq_Value x.f3];simp only [Option.bind_some];rw [if_pos (by trivial)]
theorem sz_TermS (xs:List S160) (hok:okTermS xs) (left:Int) (h0:0≤left) (h1:left≤1048576):Ev (fun k=>laws_szTermS.f k xs left) (szv (tzTermS xs) left):=by
 obtain ⟨ol,oe⟩:=hok;have e:wrap64 (left-(xs.length:Int))=left-(xs.length:Int):=wrap_left h0 h1 ol
 by_cases c:left-(xs.length:Int)<0
 ·have hz:szv (tzTermS xs) left=-1:=szv_neg (by unfold tzTermS;omega)
  rw [hz];refine ⟨0,fun k _=>?_⟩;dsimp only
  unfold laws_szTermS.f
  rw [e,if_pos c]
 ·have hz:szv (tzTermS xs) left=szv (xs.map tzTerm).sum (left-(xs.length:Int)):=by unfold szv tzTermS;split<;>split<;>omega
  rw [hz];have key:=sz_loop xs z160 tzTerm (fun k l i=>laws_szTermS.l0 k xs l i) ?_ ?_ (left-(xs.length:Int)) (by omega) (by omega)
  ·obtain ⟨K,hK⟩:=key;refine ⟨K,fun k hk=>?_⟩;dsimp only
   unfold laws_szTermS.f
   rw [e,if_neg c];exact hK k hk
  ·intro i l r hi g0 g1 hneg hpos;have hrd:rd_T160 xs (i:Int)=xs.getD i z160:=by simp [rd_T160]
   have s:=sz_Term (xs.getD i z160) (oe _ (getD_in _ hi)) l g0 g1;by_cases c2:l<(tzTerm (xs.getD i z160):Int)
   ·rw [hneg c2];rw [szv_neg c2] at s;refine ⟨0+1,fun k hk=>?_⟩;dsimp only
    obtain ⟨m,rfl⟩:∃m,k=m+1:=⟨k-1,by omega⟩;simp only [laws_szTermS.l0];rw [if_pos (by omega),if_pos (by omega),hrd,s];rfl
   ·have d2:(tzTerm (xs.getD i z160):Int)≤l:=by omega
    obtain ⟨K2,h2⟩:=hpos d2;rw [szv_pos d2] at s;refine ⟨K2+1,fun k hk=>?_⟩;dsimp only
    obtain ⟨m,rfl⟩:∃m,k=m+1:=⟨k-1,by omega⟩;simp only [laws_szTermS.l0];rw [if_pos (by omega),if_pos (by omega),hrd,s];simp only [Option.bind_some];rw [if_neg (by omega),wrap_succ hi ol];exact h2 m (by omega)
  ·intro l;refine ⟨1,fun k hk=>?_⟩;dsimp only
   obtain ⟨m,rfl⟩:∃m,k=m+1:=⟨k-1,by omega⟩;simp only [laws_szTermS.l0];rw [if_neg (by omega)]
theorem to_TermS (xs:List S160) (hs:tzTermS xs≤1048576):Ev (fun k=>laws_toTermS.f k xs) (xs.map cvTerm):=by
 unfold tzTermS at hs
 have key:=to_loop xs z160 cvTerm (fun k out i=>laws_toTermS.l0 k xs out i) ?_ ?_ (List.replicate xs.length z134) List.length_replicate
 ·obtain ⟨K,hK⟩:=key;refine ⟨K,fun k hk=>?_⟩;dsimp only
  unfold laws_toTermS.f
  rw [if_pos (by omega),if_pos (by rw [Int.toNat_natCast];omega),Int.toNat_natCast];exact hK k hk
 ·intro i out r hi ho h;obtain ⟨K,hK⟩:=h;have hrd:rd_T160 xs (i:Int)=xs.getD i z160:=by simp [rd_T160]
  have h1:=to_Term (xs.getD i z160);refine ⟨K+1,fun k hk=>?_⟩;dsimp only
  obtain ⟨m,rfl⟩:∃m,k=m+1:=⟨k-1,by omega⟩;simp only [laws_toTermS.l0];rw [if_pos (by omega),if_pos (by omega),hrd,h1];simp only [Option.bind_some];rw [if_pos (by omega),wrap_succ hi (by omega),Int.toNat_natCast];exact hK m (by omega)
 ·intro out ho;refine ⟨1,fun k hk=>?_⟩;dsimp only
  obtain ⟨m,rfl⟩:∃m,k=m+1:=⟨k-1,by omega⟩;simp only [laws_toTermS.l0];rw [if_neg (by omega)]
theorem eq_TermS (xs:List S134) (hl:xs.length≤9223372036854775807):Ev (fun k=>laws_eqTermS.f k xs xs) true:=by
 have key:=eq_loop xs.length (fun k i=>laws_eqTermS.l0 k xs xs i) ?_ ?_
 ·obtain ⟨K,hK⟩:=key;refine ⟨K,fun k hk=>?_⟩;dsimp only
  unfold laws_eqTermS.f
  rw [if_pos (by trivial)];exact hK k hk
 ·intro i hi h;obtain ⟨K,hK⟩:=h;have hrd:rd_T134 xs (i:Int)=xs.getD i z134:=by simp [rd_T134]
  have h1:=eq_Term (xs.getD i z134);refine ⟨K+1,fun k hk=>?_⟩;dsimp only
  obtain ⟨m,rfl⟩:∃m,k=m+1:=⟨k-1,by omega⟩;simp only [laws_eqTermS.l0];rw [if_pos (by omega),if_pos (by omega),if_pos (by omega),hrd,h1];simp only [Option.bind_some];rw [if_pos (by trivial),wrap_succ hi hl];exact hK m (by omega)
 ·refine ⟨1,fun k hk=>?_⟩;dsimp only
  obtain ⟨m,rfl⟩:∃m,k=m+1:=⟨k-1,by omega⟩;simp only [laws_eqTermS.l0];rw [if_neg (by omega)]
def cvPattern (x:S112):S101:=⟨x.f0,x.f1,(x.f2.map cvTerm)⟩
def tzPattern (x:S112):Nat:=x.f1.size+tzTermS x.f2
def okPattern (x:S112):Prop:=x.f1.size≤9223372036854775807∧okTermS x.f2
def tzPatternS (xs:List S112):Nat:=xs.length+(xs.map tzPattern).sum
def okPatternS (xs:List S112):Prop:=xs.length≤9223372036854775807∧∀x,x∈xs→okPattern x
theorem sz_Pattern (x:S112) (hok:okPattern x) (left:Int) (h0:0≤left) (h1:left≤1048576):Ev (fun k=>laws_szPattern.f k x.f0 x.f1 x.f2 left) (szv (tzPattern x) left):=by
 obtain ⟨o1,o2⟩:=hok;have e1:wrap64 (left-(x.f1.size:Int))=left-(x.f1.size:Int):=wrap_left (by omega) (by omega) o1
 by_cases c1:left-(x.f1.size:Int)<0
 ·have hz:szv (tzPattern x) left=-1:=szv_neg (by unfold tzPattern;omega)
  rw [hz];refine ⟨0,fun k hk=>?_⟩;dsimp only
  unfold laws_szPattern.f
  rw [e1,if_pos c1];try rfl
 ·skip;obtain ⟨K2,s2⟩:=sz_TermS x.f2 o2 (left-(x.f1.size:Int)) (by omega) (by omega);by_cases c2:(left-(x.f1.size:Int))<((tzTermS x.f2:Nat):Int)
  ·have hz:szv (tzPattern x) left=-1:=szv_neg (by unfold tzPattern;omega)
   rw [hz];simp only [szv_neg c2] at s2;refine ⟨K2,fun k hk=>?_⟩;dsimp only
   unfold laws_szPattern.f
   rw [e1,if_neg c1];rw [s2 k (by omega)];rfl
  ·have d2:((tzTermS x.f2:Nat):Int)≤(left-(x.f1.size:Int)):=by omega
   simp only [szv_pos d2] at s2;have hz:szv (tzPattern x) left=((left-(x.f1.size:Int))-((tzTermS x.f2:Nat):Int)):=by rw [szv_pos (by unfold tzPattern;omega)];unfold tzPattern;omega
   rw [hz];refine ⟨K2,fun k hk=>?_⟩;dsimp only
   unfold laws_szPattern.f
   rw [e1,if_neg c1];rw [s2 k (by omega)];simp only [Option.bind_some];rw [if_neg (by omega)];try rfl
theorem to_Pattern (x:S112) (hs:tzPattern x≤1048576):Ev (fun k=>laws_toPattern.f k x.f0 x.f1 x.f2) (x.f0,x.f1,(x.f2.map cvTerm)):=by
 unfold tzPattern at hs
 obtain ⟨K2,h2⟩:=to_TermS x.f2 (by omega);dsimp only at h2
 refine ⟨K2,fun k hk=>?_⟩;dsimp only
 unfold laws_toPattern.f
 rw [h2 k (by omega)];simp only [Option.bind_some];try rfl
def lePattern (x:S101):Prop:=x.f2.length≤9223372036854775807
theorem eq_Pattern (x:S101) (hl:lePattern x):Ev (fun k=>laws_eqPattern.f k x.f0 x.f1 x.f2 x.f0 x.f1 x.f2) true:=by
 have o2:=hl;unfold lePattern at o2
 obtain ⟨K2,h2⟩:=eq_TermS x.f2 o2;dsimp only at h2
 refine ⟨K2,fun k hk=>?_⟩;dsimp only
 unfold laws_eqPattern.f
 rw [if_neg (by simp)];rw [if_pos (by trivial)];rw [h2 k (by omega)];simp only [Option.bind_some];rw [if_pos (by trivial)]
theorem sz_PatternS (xs:List S112) (hok:okPatternS xs) (left:Int) (h0:0≤left) (h1:left≤1048576):Ev (fun k=>laws_szPatternS.f k xs left) (szv (tzPatternS xs) left):=by
 obtain ⟨ol,oe⟩:=hok;have e:wrap64 (left-(xs.length:Int))=left-(xs.length:Int):=wrap_left h0 h1 ol
 by_cases c:left-(xs.length:Int)<0
 ·have hz:szv (tzPatternS xs) left=-1:=szv_neg (by unfold tzPatternS;omega)
  rw [hz];refine ⟨0,fun k _=>?_⟩;dsimp only
  unfold laws_szPatternS.f
  rw [e,if_pos c]
 ·have hz:szv (tzPatternS xs) left=szv (xs.map tzPattern).sum (left-(xs.length:Int)):=by unfold szv tzPatternS;split<;>split<;>omega
  rw [hz];have key:=sz_loop xs z112 tzPattern (fun k l i=>laws_szPatternS.l0 k xs l i) ?_ ?_ (left-(xs.length:Int)) (by omega) (by omega)
  ·obtain ⟨K,hK⟩:=key;refine ⟨K,fun k hk=>?_⟩;dsimp only
   unfold laws_szPatternS.f
   rw [e,if_neg c];exact hK k hk
  ·intro i l r hi g0 g1 hneg hpos;have hrd:rd_T112 xs (i:Int)=xs.getD i z112:=by simp [rd_T112]
   obtain ⟨K1,s⟩:=sz_Pattern (xs.getD i z112) (oe _ (getD_in _ hi)) l g0 g1;by_cases c2:l<(tzPattern (xs.getD i z112):Int)
   ·rw [hneg c2];simp only [szv_neg c2] at s;refine ⟨K1+1,fun k hk=>?_⟩;dsimp only
    obtain ⟨m,rfl⟩:∃m,k=m+1:=⟨k-1,by omega⟩;simp only [laws_szPatternS.l0];rw [if_pos (by omega),if_pos (by omega),hrd,s m (by omega)];rfl
   ·have d2:(tzPattern (xs.getD i z112):Int)≤l:=by omega
    obtain ⟨K2,h2⟩:=hpos d2;simp only [szv_pos d2] at s;refine ⟨K1+K2+1,fun k hk=>?_⟩;dsimp only
    obtain ⟨m,rfl⟩:∃m,k=m+1:=⟨k-1,by omega⟩;simp only [laws_szPatternS.l0];rw [if_pos (by omega),if_pos (by omega),hrd,s m (by omega)];simp only [Option.bind_some];rw [if_neg (by omega),wrap_succ hi ol];exact h2 m (by omega)
  ·intro l;refine ⟨1,fun k hk=>?_⟩;dsimp only
   obtain ⟨m,rfl⟩:∃m,k=m+1:=⟨k-1,by omega⟩;simp only [laws_szPatternS.l0];rw [if_neg (by omega)]
theorem to_PatternS (xs:List S112) (hs:tzPatternS xs≤1048576):Ev (fun k=>laws_toPatternS.f k xs) (xs.map cvPattern):=by
 unfold tzPatternS at hs
 have key:=to_loop xs z112 cvPattern (fun k out i=>laws_toPatternS.l0 k xs out i) ?_ ?_ (List.replicate xs.length z101) List.length_replicate
 ·obtain ⟨K,hK⟩:=key;refine ⟨K,fun k hk=>?_⟩;dsimp only
  unfold laws_toPatternS.f
  rw [if_pos (by omega),if_pos (by rw [Int.toNat_natCast];omega),Int.toNat_natCast];exact hK k hk
 ·intro i out r hi ho h;obtain ⟨K,hK⟩:=h;have hrd:rd_T112 xs (i:Int)=xs.getD i z112:=by simp [rd_T112]
  have hm:=sum_le_of_mem tzPattern xs _ (getD_in z112 hi);obtain ⟨K1,h1⟩:=to_Pattern (xs.getD i z112) (by omega);dsimp only at h1
  refine ⟨K1+K+1,fun k hk=>?_⟩;dsimp only
  obtain ⟨m,rfl⟩:∃m,k=m+1:=⟨k-1,by omega⟩;simp only [laws_toPatternS.l0];rw [if_pos (by omega),if_pos (by omega),hrd,h1 m (by omega)];simp only [Option.bind_some];rw [if_pos (by omega),wrap_succ hi (by omega),Int.toNat_natCast];exact hK m (by omega)
 ·intro out ho;refine ⟨1,fun k hk=>?_⟩;dsimp only
  obtain ⟨m,rfl⟩:∃m,k=m+1:=⟨k-1,by omega⟩;simp only [laws_toPatternS.l0];rw [if_neg (by omega)]
def lePatternS (xs:List S101):Prop:=xs.length≤9223372036854775807∧∀x,x∈xs→lePattern x
theorem eq_PatternS (xs:List S101) (hl:lePatternS xs):Ev (fun k=>laws_eqPatternS.f k xs xs) true:=by
 obtain ⟨hl,he⟩:=hl;have key:=eq_loop xs.length (fun k i=>laws_eqPatternS.l0 k xs xs i) ?_ ?_
 ·obtain ⟨K,hK⟩:=key;refine ⟨K,fun k hk=>?_⟩;dsimp only
  unfold laws_eqPatternS.f
  rw [if_pos (by trivial)];exact hK k hk
 ·intro i hi h;obtain ⟨K,hK⟩:=h;have hrd:rd_T101 xs (i:Int)=xs.getD i z101:=by simp [rd_T101]
  obtain ⟨K1,h1⟩:=eq_Pattern (xs.getD i z101) (he _ (getD_in _ hi));dsimp only at h1
  refine ⟨K1+K+1,fun k hk=>?_⟩;dsimp only
  obtain ⟨m,rfl⟩:∃m,k=m+1:=⟨k-1,by omega⟩;simp only [laws_eqPatternS.l0];rw [if_pos (by omega),if_pos (by omega),if_pos (by omega),hrd,h1 m (by omega)];simp only [Option.bind_some];rw [if_pos (by trivial),wrap_succ hi hl];exact hK m (by omega)
 ·refine ⟨1,fun k hk=>?_⟩;dsimp only
  obtain ⟨m,rfl⟩:∃m,k=m+1:=⟨k-1,by omega⟩;simp only [laws_eqPatternS.l0];rw [if_neg (by omega)]
theorem le_cvPattern (x:S112) (hs:tzPattern x≤1048576):lePattern (cvPattern x):=by
 unfold tzPattern at hs
 exact by show (x.f2.map cvTerm).length≤_;rw [List.length_map];unfold tzTermS at hs;omega
theorem le_cvPatternS (xs:List S112) (hs:tzPatternS xs≤1048576):lePatternS (xs.map cvPattern):=by
 unfold tzPatternS at hs
 refine ⟨by rw [List.length_map];omega,fun y hy=>?_⟩;obtain ⟨x,hx,rfl⟩:=List.mem_map.1 hy;have:=sum_le_of_mem tzPattern xs x hx
 exact le_cvPattern x (by omega)
def cvExpr (x:S116):S106:=⟨x.f0,x.f1,x.f2,(cvValue x.f3),x.f4,x.f5⟩
def tzExpr (x:S116):Nat:=x.f2.size+tzValue x.f3
def okExpr (x:S116):Prop:=okInt x.f0∧okByte x.f1∧x.f2.size≤9223372036854775807∧okValue x.f3∧okInt x.f4∧okInt x.f5
def tzExprS (xs:List S116):Nat:=xs.length+(xs.map tzExpr).sum
def okExprS (xs:List S116):Prop:=xs.length≤9223372036854775807∧∀x,x∈xs→okExpr x
theorem sz_Expr (x:S116) (hok:okExpr x) (left:Int) (h0:0≤left) (h1:left≤1048576):laws_szExpr.f x.f0 x.f1 x.f2 x.f3.f0 x.f3.f1 x.f3.f2 x.f4 x.f5 left=some (szv (tzExpr x) left):=by
 obtain ⟨o0,o1,o2,o3,o4,o5⟩:=hok;have e2:wrap64 (left-(x.f2.size:Int))=left-(x.f2.size:Int):=wrap_left (by omega) (by omega) o2
 by_cases c2:left-(x.f2.size:Int)<0
 ·have hz:szv (tzExpr x) left=-1:=szv_neg (by unfold tzExpr;omega)
  rw [hz];unfold laws_szExpr.f
  rw [e2,if_pos c2];try rfl
 ·skip;have s3:=sz_Value x.f3 o3 (left-(x.f2.size:Int)) (by omega) (by omega);by_cases c3:(left-(x.f2.size:Int))<((tzValue x.f3:Nat):Int)
  ·have hz:szv (tzExpr x) left=-1:=szv_neg (by unfold tzExpr;omega)
   rw [hz];rw [szv_neg c3] at s3;unfold laws_szExpr.f
   rw [e2,if_neg c2];rw [s3];rfl
  ·have d3:((tzValue x.f3:Nat):Int)≤(left-(x.f2.size:Int)):=by omega
   rw [szv_pos d3] at s3;have hz:szv (tzExpr x) left=((left-(x.f2.size:Int))-((tzValue x.f3:Nat):Int)):=by rw [szv_pos (by unfold tzExpr;omega)];unfold tzExpr;omega
   rw [hz];unfold laws_szExpr.f
   rw [e2,if_neg c2];rw [s3];simp only [Option.bind_some];rw [if_neg (by omega)];try rfl
theorem to_Expr (x:S116):laws_toExpr.f x.f0 x.f1 x.f2 x.f3.f0 x.f3.f1 x.f3.f2 x.f4 x.f5=some (x.f0,x.f1,x.f2,x.f3.f0,x.f3.f1,x.f3.f2,x.f4,x.f5):=rfl
theorem eq_Expr (x:S106):laws_eqExpr.f x.f0 x.f1 x.f2 x.f3.f0 x.f3.f1 x.f3.f2 x.f4 x.f5 x.f0 x.f1 x.f2 x.f3.f0 x.f3.f1 x.f3.f2 x.f4 x.f5=some true:=by
 unfold laws_eqExpr.f
 rw [if_pos (by trivial)];rw [if_pos (by trivial)];rw [if_pos (by trivial)];rw [eq_Value x.f3];simp only [Option.bind_some];rw [if_pos (by trivial)];rw [if_pos (by trivial)];rw [if_pos (by trivial)]
theorem sz_ExprS (xs:List S116) (hok:okExprS xs) (left:Int) (h0:0≤left) (h1:left≤1048576):Ev (fun k=>laws_szExprS.f k xs left) (szv (tzExprS xs) left):=by
 obtain ⟨ol,oe⟩:=hok;have e:wrap64 (left-(xs.length:Int))=left-(xs.length:Int):=wrap_left h0 h1 ol
 by_cases c:left-(xs.length:Int)<0
 ·have hz:szv (tzExprS xs) left=-1:=szv_neg (by unfold tzExprS;omega)
  rw [hz];refine ⟨0,fun k _=>?_⟩;dsimp only
  unfold laws_szExprS.f
  rw [e,if_pos c]
 ·have hz:szv (tzExprS xs) left=szv (xs.map tzExpr).sum (left-(xs.length:Int)):=by unfold szv tzExprS;split<;>split<;>omega
  rw [hz];have key:=sz_loop xs z116 tzExpr (fun k l i=>laws_szExprS.l0 k xs l i) ?_ ?_ (left-(xs.length:Int)) (by omega) (by omega)
  ·obtain ⟨K,hK⟩:=key;refine ⟨K,fun k hk=>?_⟩;dsimp only
   unfold laws_szExprS.f
   rw [e,if_neg c];exact hK k hk
  ·intro i l r hi g0 g1 hneg hpos;have hrd:rd_T116 xs (i:Int)=xs.getD i z116:=by simp [rd_T116]
   have s:=sz_Expr (xs.getD i z116) (oe _ (getD_in _ hi)) l g0 g1;by_cases c2:l<(tzExpr (xs.getD i z116):Int)
   ·rw [hneg c2];rw [szv_neg c2] at s;refine ⟨0+1,fun k hk=>?_⟩;dsimp only
    obtain ⟨m,rfl⟩:∃m,k=m+1:=⟨k-1,by omega⟩;simp only [laws_szExprS.l0];rw [if_pos (by omega),if_pos (by omega),hrd,s];rfl
   ·have d2:(tzExpr (xs.getD i z116):Int)≤l:=by omega
    obtain ⟨K2,h2⟩:=hpos d2;rw [szv_pos d2] at s;refine ⟨K2+1,fun k hk=>?_⟩;dsimp only
    obtain ⟨m,rfl⟩:∃m,k=m+1:=⟨k-1,by omega⟩;simp only [laws_szExprS.l0];rw [if_pos (by omega),if_pos (by omega),hrd,s];simp only [Option.bind_some];rw [if_neg (by omega),wrap_succ hi ol];exact h2 m (by omega)
  ·intro l;refine ⟨1,fun k hk=>?_⟩;dsimp only
   obtain ⟨m,rfl⟩:∃m,k=m+1:=⟨k-1,by omega⟩;simp only [laws_szExprS.l0];rw [if_neg (by omega)]
theorem to_ExprS (xs:List S116) (hs:tzExprS xs≤1048576):Ev (fun k=>laws_toExprS.f k xs) (xs.map cvExpr):=by
 unfold tzExprS at hs
 have key:=to_loop xs z116 cvExpr (fun k out i=>laws_toExprS.l0 k xs out i) ?_ ?_ (List.replicate xs.length z106) List.length_replicate
 ·obtain ⟨K,hK⟩:=key;refine ⟨K,fun k hk=>?_⟩;dsimp only
  unfold laws_toExprS.f
  rw [if_pos (by omega),if_pos (by rw [Int.toNat_natCast];omega),Int.toNat_natCast];exact hK k hk
 ·intro i out r hi ho h;obtain ⟨K,hK⟩:=h;have hrd:rd_T116 xs (i:Int)=xs.getD i z116:=by simp [rd_T116]
  have h1:=to_Expr (xs.getD i z116);refine ⟨K+1,fun k hk=>?_⟩;dsimp only
  obtain ⟨m,rfl⟩:∃m,k=m+1:=⟨k-1,by omega⟩;simp only [laws_toExprS.l0];rw [if_pos (by omega),if_pos (by omega),hrd,h1];simp only [Option.bind_some];rw [if_pos (by omega),wrap_succ hi (by omega),Int.toNat_natCast];exact hK m (by omega)
 ·intro out ho;refine ⟨1,fun k hk=>?_⟩;dsimp only
  obtain ⟨m,rfl⟩:∃m,k=m+1:=⟨k-1,by omega⟩;simp only [laws_toExprS.l0];rw [if_neg (by omega)]
theorem eq_ExprS (xs:List S106) (hl:xs.length≤9223372036854775807):Ev (fun k=>laws_eqExprS.f k xs xs) true:=by
 have key:=eq_loop xs.length (fun k i=>laws_eqExprS.l0 k xs xs i) ?_ ?_
 ·obtain ⟨K,hK⟩:=key;refine ⟨K,fun k hk=>?_⟩;dsimp only
  unfold laws_eqExprS.f
  rw [if_pos (by trivial)];exact hK k hk
 ·intro i hi h;obtain ⟨K,hK⟩:=h;have hrd:rd_T106 xs (i:Int)=xs.getD i z106:=by simp [rd_T106]
  have h1:=eq_Expr (xs.getD i z106);refine ⟨K+1,fun k hk=>?_⟩;dsimp only
  obtain ⟨m,rfl⟩:∃m,k=m+1:=⟨k-1,by omega⟩;simp only [laws_eqExprS.l0];rw [if_pos (by omega),if_pos (by omega),if_pos (by omega),hrd,h1];simp only [Option.bind_some];rw [if_pos (by trivial),wrap_succ hi hl];exact hK m (by omega)
 ·refine ⟨1,fun k hk=>?_⟩;dsimp only
  obtain ⟨m,rfl⟩:∃m,k=m+1:=⟨k-1,by omega⟩;simp only [laws_eqExprS.l0];rw [if_neg (by omega)]
def cvAction (x:S118):S108:=⟨x.f0,x.f1,x.f2,x.f3⟩
def tzAction (x:S118):Nat:=x.f2.size+x.f3.length
def okAction (x:S118):Prop:=okInt x.f0∧okInt x.f1∧x.f2.size≤9223372036854775807∧okIntS x.f3
def tzActionS (xs:List S118):Nat:=xs.length+(xs.map tzAction).sum
def okActionS (xs:List S118):Prop:=xs.length≤9223372036854775807∧∀x,x∈xs→okAction x
theorem sz_Action (x:S118) (hok:okAction x) (left:Int) (h0:0≤left) (h1:left≤1048576):laws_szAction.f x.f0 x.f1 x.f2 x.f3 left=some (szv (tzAction x) left):=by
 obtain ⟨o0,o1,o2,o3⟩:=hok;have e2:wrap64 (left-(x.f2.size:Int))=left-(x.f2.size:Int):=wrap_left (by omega) (by omega) o2
 by_cases c2:left-(x.f2.size:Int)<0
 ·have hz:szv (tzAction x) left=-1:=szv_neg (by unfold tzAction;omega)
  rw [hz];unfold laws_szAction.f
  rw [e2,if_pos c2];try rfl
 ·skip;have s3:laws_szIntS.f x.f3 (left-(x.f2.size:Int))=some (szv (x.f3.length) (left-(x.f2.size:Int))):=sz_IntS x.f3 o3.1 (left-(x.f2.size:Int)) (by omega) (by omega)
  by_cases c3:(left-(x.f2.size:Int))<((x.f3.length:Nat):Int)
  ·have hz:szv (tzAction x) left=-1:=szv_neg (by unfold tzAction;omega)
   rw [hz];rw [szv_neg c3] at s3;unfold laws_szAction.f
   rw [e2,if_neg c2];rw [s3];rfl
  ·have d3:((x.f3.length:Nat):Int)≤(left-(x.f2.size:Int)):=by omega
   rw [szv_pos d3] at s3;have hz:szv (tzAction x) left=((left-(x.f2.size:Int))-((x.f3.length:Nat):Int)):=by rw [szv_pos (by unfold tzAction;omega)];unfold tzAction;omega
   rw [hz];unfold laws_szAction.f
   rw [e2,if_neg c2];rw [s3];simp only [Option.bind_some];rw [if_neg (by omega)];try rfl
theorem to_Action (x:S118) (hs:tzAction x≤1048576):Ev (fun k=>laws_toAction.f k x.f0 x.f1 x.f2 x.f3) (x.f0,x.f1,x.f2,x.f3):=by
 unfold tzAction at hs
 obtain ⟨K3,h3⟩:=to_IntS x.f3 (by omega);dsimp only at h3
 refine ⟨K3,fun k hk=>?_⟩;dsimp only
 unfold laws_toAction.f
 rw [h3 k (by omega)];simp only [Option.bind_some];try rfl
def leAction (x:S108):Prop:=x.f3.length≤9223372036854775807
theorem eq_Action (x:S108) (hl:leAction x):Ev (fun k=>laws_eqAction.f k x.f0 x.f1 x.f2 x.f3 x.f0 x.f1 x.f2 x.f3) true:=by
 have o3:=hl;unfold leAction at o3
 obtain ⟨K3,h3⟩:=eq_IntS x.f3 o3;dsimp only at h3
 refine ⟨K3,fun k hk=>?_⟩;dsimp only
 unfold laws_eqAction.f
 rw [if_pos (by trivial)];rw [if_pos (by trivial)];rw [if_pos (by trivial)];rw [h3 k (by omega)];simp only [Option.bind_some];rw [if_pos (by trivial)]
theorem sz_ActionS (xs:List S118) (hok:okActionS xs) (left:Int) (h0:0≤left) (h1:left≤1048576):Ev (fun k=>laws_szActionS.f k xs left) (szv (tzActionS xs) left):=by
 obtain ⟨ol,oe⟩:=hok;have e:wrap64 (left-(xs.length:Int))=left-(xs.length:Int):=wrap_left h0 h1 ol
 by_cases c:left-(xs.length:Int)<0
 ·have hz:szv (tzActionS xs) left=-1:=szv_neg (by unfold tzActionS;omega)
  rw [hz];refine ⟨0,fun k _=>?_⟩;dsimp only
  unfold laws_szActionS.f
  rw [e,if_pos c]
 ·have hz:szv (tzActionS xs) left=szv (xs.map tzAction).sum (left-(xs.length:Int)):=by unfold szv tzActionS;split<;>split<;>omega
  rw [hz];have key:=sz_loop xs z118 tzAction (fun k l i=>laws_szActionS.l0 k xs l i) ?_ ?_ (left-(xs.length:Int)) (by omega) (by omega)
  ·obtain ⟨K,hK⟩:=key;refine ⟨K,fun k hk=>?_⟩;dsimp only
   unfold laws_szActionS.f
   rw [e,if_neg c];exact hK k hk
  ·intro i l r hi g0 g1 hneg hpos;have hrd:rd_T118 xs (i:Int)=xs.getD i z118:=by simp [rd_T118]
   have s:=sz_Action (xs.getD i z118) (oe _ (getD_in _ hi)) l g0 g1;by_cases c2:l<(tzAction (xs.getD i z118):Int)
   ·rw [hneg c2];rw [szv_neg c2] at s;refine ⟨0+1,fun k hk=>?_⟩;dsimp only
    obtain ⟨m,rfl⟩:∃m,k=m+1:=⟨k-1,by omega⟩;simp only [laws_szActionS.l0];rw [if_pos (by omega),if_pos (by omega),hrd,s];rfl
   ·have d2:(tzAction (xs.getD i z118):Int)≤l:=by omega
    obtain ⟨K2,h2⟩:=hpos d2;rw [szv_pos d2] at s;refine ⟨K2+1,fun k hk=>?_⟩;dsimp only
    obtain ⟨m,rfl⟩:∃m,k=m+1:=⟨k-1,by omega⟩;simp only [laws_szActionS.l0];rw [if_pos (by omega),if_pos (by omega),hrd,s];simp only [Option.bind_some];rw [if_neg (by omega),wrap_succ hi ol];exact h2 m (by omega)
  ·intro l;refine ⟨1,fun k hk=>?_⟩;dsimp only
   obtain ⟨m,rfl⟩:∃m,k=m+1:=⟨k-1,by omega⟩;simp only [laws_szActionS.l0];rw [if_neg (by omega)]
theorem to_ActionS (xs:List S118) (hs:tzActionS xs≤1048576):Ev (fun k=>laws_toActionS.f k xs) (xs.map cvAction):=by
 unfold tzActionS at hs
 have key:=to_loop xs z118 cvAction (fun k out i=>laws_toActionS.l0 k xs out i) ?_ ?_ (List.replicate xs.length z108) List.length_replicate
 ·obtain ⟨K,hK⟩:=key;refine ⟨K,fun k hk=>?_⟩;dsimp only
  unfold laws_toActionS.f
  rw [if_pos (by omega),if_pos (by rw [Int.toNat_natCast];omega),Int.toNat_natCast];exact hK k hk
 ·intro i out r hi ho h;obtain ⟨K,hK⟩:=h;have hrd:rd_T118 xs (i:Int)=xs.getD i z118:=by simp [rd_T118]
  have hm:=sum_le_of_mem tzAction xs _ (getD_in z118 hi);obtain ⟨K1,h1⟩:=to_Action (xs.getD i z118) (by omega);dsimp only at h1
  refine ⟨K1+K+1,fun k hk=>?_⟩;dsimp only
  obtain ⟨m,rfl⟩:∃m,k=m+1:=⟨k-1,by omega⟩;simp only [laws_toActionS.l0];rw [if_pos (by omega),if_pos (by omega),hrd,h1 m (by omega)];simp only [Option.bind_some];rw [if_pos (by omega),wrap_succ hi (by omega),Int.toNat_natCast];exact hK m (by omega)
 ·intro out ho;refine ⟨1,fun k hk=>?_⟩;dsimp only
  obtain ⟨m,rfl⟩:∃m,k=m+1:=⟨k-1,by omega⟩;simp only [laws_toActionS.l0];rw [if_neg (by omega)]
def leActionS (xs:List S108):Prop:=xs.length≤9223372036854775807∧∀x,x∈xs→leAction x
theorem eq_ActionS (xs:List S108) (hl:leActionS xs):Ev (fun k=>laws_eqActionS.f k xs xs) true:=by
 obtain ⟨hl,he⟩:=hl;have key:=eq_loop xs.length (fun k i=>laws_eqActionS.l0 k xs xs i) ?_ ?_
 ·obtain ⟨K,hK⟩:=key;refine ⟨K,fun k hk=>?_⟩;dsimp only
  unfold laws_eqActionS.f
  rw [if_pos (by trivial)];exact hK k hk
 ·intro i hi h;obtain ⟨K,hK⟩:=h;have hrd:rd_T108 xs (i:Int)=xs.getD i z108:=by simp [rd_T108]
  obtain ⟨K1,h1⟩:=eq_Action (xs.getD i z108) (he _ (getD_in _ hi));dsimp only at h1
  refine ⟨K1+K+1,fun k hk=>?_⟩;dsimp only
  obtain ⟨m,rfl⟩:∃m,k=m+1:=⟨k-1,by omega⟩;simp only [laws_eqActionS.l0];rw [if_pos (by omega),if_pos (by omega),if_pos (by omega),hrd,h1 m (by omega)];simp only [Option.bind_some];rw [if_pos (by trivial),wrap_succ hi hl];exact hK m (by omega)
 ·refine ⟨1,fun k hk=>?_⟩;dsimp only
  obtain ⟨m,rfl⟩:∃m,k=m+1:=⟨k-1,by omega⟩;simp only [laws_eqActionS.l0];rw [if_neg (by omega)]
theorem le_cvAction (x:S118) (hs:tzAction x≤1048576):leAction (cvAction x):=by
 unfold tzAction at hs
 exact by show x.f3.length≤_;omega
theorem le_cvActionS (xs:List S118) (hs:tzActionS xs≤1048576):leActionS (xs.map cvAction):=by
 unfold tzActionS at hs
 refine ⟨by rw [List.length_map];omega,fun y hy=>?_⟩;obtain ⟨x,hx,rfl⟩:=List.mem_map.1 hy;have:=sum_le_of_mem tzAction xs x hx
 exact le_cvAction x (by omega)
def cvRule (x:S50):S58:=⟨x.f0,x.f1,(x.f2.map cvPattern),(x.f3.map cvExpr),(x.f4.map cvAction)⟩
def tzRule (x:S50):Nat:=x.f0.size+tzPatternS x.f2+tzExprS x.f3+tzActionS x.f4
def okRule (x:S50):Prop:=x.f0.size≤9223372036854775807∧okInt x.f1∧okPatternS x.f2∧okExprS x.f3∧okActionS x.f4
def tzRuleS (xs:List S50):Nat:=xs.length+(xs.map tzRule).sum
def okRuleS (xs:List S50):Prop:=xs.length≤9223372036854775807∧∀x,x∈xs→okRule x
theorem sz_Rule (x:S50) (hok:okRule x) (left:Int) (h0:0≤left) (h1:left≤1048576):Ev (fun k=>laws_szRule.f k x.f0 x.f1 x.f2 x.f3 x.f4 left) (szv (tzRule x) left):=by
 obtain ⟨o0,o1,o2,o3,o4⟩:=hok;have e0:wrap64 (left-(x.f0.size:Int))=left-(x.f0.size:Int):=wrap_left (by omega) (by omega) o0
 by_cases c0:left-(x.f0.size:Int)<0
 ·have hz:szv (tzRule x) left=-1:=szv_neg (by unfold tzRule;omega)
  rw [hz];refine ⟨0,fun k hk=>?_⟩;dsimp only
  unfold laws_szRule.f
  rw [e0,if_pos c0];try rfl
 ·skip;obtain ⟨K2,s2⟩:=sz_PatternS x.f2 o2 (left-(x.f0.size:Int)) (by omega) (by omega);by_cases c2:(left-(x.f0.size:Int))<((tzPatternS x.f2:Nat):Int)
  ·have hz:szv (tzRule x) left=-1:=szv_neg (by unfold tzRule;omega)
   rw [hz];simp only [szv_neg c2] at s2;refine ⟨K2,fun k hk=>?_⟩;dsimp only
   unfold laws_szRule.f
   rw [e0,if_neg c0];rw [s2 k (by omega)];rfl
  ·have d2:((tzPatternS x.f2:Nat):Int)≤(left-(x.f0.size:Int)):=by omega
   simp only [szv_pos d2] at s2;obtain ⟨K3,s3⟩:=sz_ExprS x.f3 o3 ((left-(x.f0.size:Int))-((tzPatternS x.f2:Nat):Int)) (by omega) (by omega);by_cases c3:((left-(x.f0.size:Int))-((tzPatternS x.f2:Nat):Int))<((tzExprS x.f3:Nat):Int)
   ·have hz:szv (tzRule x) left=-1:=szv_neg (by unfold tzRule;omega)
    rw [hz];simp only [szv_neg c3] at s3;refine ⟨K2+K3,fun k hk=>?_⟩;dsimp only
    unfold laws_szRule.f
    rw [e0,if_neg c0];rw [s2 k (by omega)];simp only [Option.bind_some];rw [if_neg (by omega)];rw [s3 k (by omega)];rfl
   ·have d3:((tzExprS x.f3:Nat):Int)≤((left-(x.f0.size:Int))-((tzPatternS x.f2:Nat):Int)):=by omega
    simp only [szv_pos d3] at s3;obtain ⟨K4,s4⟩:=sz_ActionS x.f4 o4 (((left-(x.f0.size:Int))-((tzPatternS x.f2:Nat):Int))-((tzExprS x.f3:Nat):Int)) (by omega) (by omega);by_cases c4:(((left-(x.f0.size:Int))-((tzPatternS x.f2:Nat):Int))-((tzExprS x.f3:Nat):Int))<((tzActionS x.f4:Nat):Int)
    ·have hz:szv (tzRule x) left=-1:=szv_neg (by unfold tzRule;omega)
     rw [hz];simp only [szv_neg c4] at s4;refine ⟨K2+K3+K4,fun k hk=>?_⟩;dsimp only
     unfold laws_szRule.f
     rw [e0,if_neg c0];rw [s2 k (by omega)];simp only [Option.bind_some];rw [if_neg (by omega)];rw [s3 k (by omega)];simp only [Option.bind_some];rw [if_neg (by omega)];rw [s4 k (by omega)];rfl
    ·have d4:((tzActionS x.f4:Nat):Int)≤(((left-(x.f0.size:Int))-((tzPatternS x.f2:Nat):Int))-((tzExprS x.f3:Nat):Int)):=by omega
     simp only [szv_pos d4] at s4;have hz:szv (tzRule x) left=((((left-(x.f0.size:Int))-((tzPatternS x.f2:Nat):Int))-((tzExprS x.f3:Nat):Int))-((tzActionS x.f4:Nat):Int)):=by rw [szv_pos (by unfold tzRule;omega)];unfold tzRule;omega
     rw [hz];refine ⟨K2+K3+K4,fun k hk=>?_⟩;dsimp only
     unfold laws_szRule.f
     rw [e0,if_neg c0];rw [s2 k (by omega)];simp only [Option.bind_some];rw [if_neg (by omega)];rw [s3 k (by omega)];simp only [Option.bind_some];rw [if_neg (by omega)];rw [s4 k (by omega)];simp only [Option.bind_some];rw [if_neg (by omega)];try rfl
theorem to_Rule (x:S50) (hs:tzRule x≤1048576):Ev (fun k=>laws_toRule.f k x.f0 x.f1 x.f2 x.f3 x.f4) (x.f0,x.f1,(x.f2.map cvPattern),(x.f3.map cvExpr),(x.f4.map cvAction)):=by
 unfold tzRule at hs
 obtain ⟨K2,h2⟩:=to_PatternS x.f2 (by omega);dsimp only at h2
 obtain ⟨K3,h3⟩:=to_ExprS x.f3 (by omega);dsimp only at h3
 obtain ⟨K4,h4⟩:=to_ActionS x.f4 (by omega);dsimp only at h4
 refine ⟨K2+K3+K4,fun k hk=>?_⟩;dsimp only
 unfold laws_toRule.f
 rw [h2 k (by omega)];simp only [Option.bind_some];rw [h3 k (by omega)];simp only [Option.bind_some];rw [h4 k (by omega)];simp only [Option.bind_some];try rfl
def leRule (x:S58):Prop:=lePatternS x.f2∧x.f3.length≤9223372036854775807∧leActionS x.f4
theorem eq_Rule (x:S58) (hl:leRule x):Ev (fun k=>laws_eqRule.f k x.f0 x.f1 x.f2 x.f3 x.f4 x.f0 x.f1 x.f2 x.f3 x.f4) true:=by
 obtain ⟨o2,o3,o4⟩:=hl;obtain ⟨K2,h2⟩:=eq_PatternS x.f2 o2;dsimp only at h2
 obtain ⟨K3,h3⟩:=eq_ExprS x.f3 o3;dsimp only at h3
 obtain ⟨K4,h4⟩:=eq_ActionS x.f4 o4;dsimp only at h4
 refine ⟨K2+K3+K4,fun k hk=>?_⟩;dsimp only
 unfold laws_eqRule.f
 rw [if_pos (by trivial)];rw [if_pos (by trivial)];rw [h2 k (by omega)];simp only [Option.bind_some];rw [if_pos (by trivial)];rw [h3 k (by omega)];simp only [Option.bind_some];rw [if_pos (by trivial)];rw [h4 k (by omega)];simp only [Option.bind_some];rw [if_pos (by trivial)]
theorem sz_RuleS (xs:List S50) (hok:okRuleS xs) (left:Int) (h0:0≤left) (h1:left≤1048576):Ev (fun k=>laws_szRuleS.f k xs left) (szv (tzRuleS xs) left):=by
 obtain ⟨ol,oe⟩:=hok;have e:wrap64 (left-(xs.length:Int))=left-(xs.length:Int):=wrap_left h0 h1 ol
 by_cases c:left-(xs.length:Int)<0
 ·have hz:szv (tzRuleS xs) left=-1:=szv_neg (by unfold tzRuleS;omega)
  rw [hz];refine ⟨0,fun k _=>?_⟩;dsimp only
  unfold laws_szRuleS.f
  rw [e,if_pos c]
 ·have hz:szv (tzRuleS xs) left=szv (xs.map tzRule).sum (left-(xs.length:Int)):=by unfold szv tzRuleS;split<;>split<;>omega
  rw [hz];have key:=sz_loop xs z50 tzRule (fun k l i=>laws_szRuleS.l0 k xs l i) ?_ ?_ (left-(xs.length:Int)) (by omega) (by omega)
  ·obtain ⟨K,hK⟩:=key;refine ⟨K,fun k hk=>?_⟩;dsimp only
   unfold laws_szRuleS.f
   rw [e,if_neg c];exact hK k hk
  ·intro i l r hi g0 g1 hneg hpos;have hrd:rd_T50 xs (i:Int)=xs.getD i z50:=by simp [rd_T50]
   obtain ⟨K1,s⟩:=sz_Rule (xs.getD i z50) (oe _ (getD_in _ hi)) l g0 g1;by_cases c2:l<(tzRule (xs.getD i z50):Int)
   ·rw [hneg c2];simp only [szv_neg c2] at s;refine ⟨K1+1,fun k hk=>?_⟩;dsimp only
    obtain ⟨m,rfl⟩:∃m,k=m+1:=⟨k-1,by omega⟩;simp only [laws_szRuleS.l0];rw [if_pos (by omega),if_pos (by omega),hrd,s m (by omega)];rfl
   ·have d2:(tzRule (xs.getD i z50):Int)≤l:=by omega
    obtain ⟨K2,h2⟩:=hpos d2;simp only [szv_pos d2] at s;refine ⟨K1+K2+1,fun k hk=>?_⟩;dsimp only
    obtain ⟨m,rfl⟩:∃m,k=m+1:=⟨k-1,by omega⟩;simp only [laws_szRuleS.l0];rw [if_pos (by omega),if_pos (by omega),hrd,s m (by omega)];simp only [Option.bind_some];rw [if_neg (by omega),wrap_succ hi ol];exact h2 m (by omega)
  ·intro l;refine ⟨1,fun k hk=>?_⟩;dsimp only
   obtain ⟨m,rfl⟩:∃m,k=m+1:=⟨k-1,by omega⟩;simp only [laws_szRuleS.l0];rw [if_neg (by omega)]
theorem to_RuleS (xs:List S50) (hs:tzRuleS xs≤1048576):Ev (fun k=>laws_toRuleS.f k xs) (xs.map cvRule):=by
 unfold tzRuleS at hs
 have key:=to_loop xs z50 cvRule (fun k out i=>laws_toRuleS.l0 k xs out i) ?_ ?_ (List.replicate xs.length z58) List.length_replicate
 ·obtain ⟨K,hK⟩:=key;refine ⟨K,fun k hk=>?_⟩;dsimp only
  unfold laws_toRuleS.f
  rw [if_pos (by omega),if_pos (by rw [Int.toNat_natCast];omega),Int.toNat_natCast];exact hK k hk
 ·intro i out r hi ho h;obtain ⟨K,hK⟩:=h;have hrd:rd_T50 xs (i:Int)=xs.getD i z50:=by simp [rd_T50]
  have hm:=sum_le_of_mem tzRule xs _ (getD_in z50 hi);obtain ⟨K1,h1⟩:=to_Rule (xs.getD i z50) (by omega);dsimp only at h1
  refine ⟨K1+K+1,fun k hk=>?_⟩;dsimp only
  obtain ⟨m,rfl⟩:∃m,k=m+1:=⟨k-1,by omega⟩;simp only [laws_toRuleS.l0];rw [if_pos (by omega),if_pos (by omega),hrd,h1 m (by omega)];simp only [Option.bind_some];rw [if_pos (by omega),wrap_succ hi (by omega),Int.toNat_natCast];exact hK m (by omega)
 ·intro out ho;refine ⟨1,fun k hk=>?_⟩;dsimp only
  obtain ⟨m,rfl⟩:∃m,k=m+1:=⟨k-1,by omega⟩;simp only [laws_toRuleS.l0];rw [if_neg (by omega)]
def leRuleS (xs:List S58):Prop:=xs.length≤9223372036854775807∧∀x,x∈xs→leRule x
theorem eq_RuleS (xs:List S58) (hl:leRuleS xs):Ev (fun k=>laws_eqRuleS.f k xs xs) true:=by
 obtain ⟨hl,he⟩:=hl;have key:=eq_loop xs.length (fun k i=>laws_eqRuleS.l0 k xs xs i) ?_ ?_
 ·obtain ⟨K,hK⟩:=key;refine ⟨K,fun k hk=>?_⟩;dsimp only
  unfold laws_eqRuleS.f
  rw [if_pos (by trivial)];exact hK k hk
 ·intro i hi h;obtain ⟨K,hK⟩:=h;have hrd:rd_T58 xs (i:Int)=xs.getD i z58:=by simp [rd_T58]
  obtain ⟨K1,h1⟩:=eq_Rule (xs.getD i z58) (he _ (getD_in _ hi));dsimp only at h1
  refine ⟨K1+K+1,fun k hk=>?_⟩;dsimp only
  obtain ⟨m,rfl⟩:∃m,k=m+1:=⟨k-1,by omega⟩;simp only [laws_eqRuleS.l0];rw [if_pos (by omega),if_pos (by omega),if_pos (by omega),hrd,h1 m (by omega)];simp only [Option.bind_some];rw [if_pos (by trivial),wrap_succ hi hl];exact hK m (by omega)
 ·refine ⟨1,fun k hk=>?_⟩;dsimp only
  obtain ⟨m,rfl⟩:∃m,k=m+1:=⟨k-1,by omega⟩;simp only [laws_eqRuleS.l0];rw [if_neg (by omega)]
theorem le_cvRule (x:S50) (hs:tzRule x≤1048576):leRule (cvRule x):=by
 unfold tzRule at hs
 exact ⟨le_cvPatternS x.f2 (by omega),by show (x.f3.map cvExpr).length≤_;rw [List.length_map];unfold tzExprS at hs;omega,le_cvActionS x.f4 (by omega)⟩
theorem le_cvRuleS (xs:List S50) (hs:tzRuleS xs≤1048576):leRuleS (xs.map cvRule):=by
 unfold tzRuleS at hs
 refine ⟨by rw [List.length_map];omega,fun y hy=>?_⟩;obtain ⟨x,hx,rfl⟩:=List.mem_map.1 hy;have:=sum_le_of_mem tzRule xs x hx
 exact le_cvRule x (by omega)
def cvInst (x:S25):S31:=⟨x.f0,x.f1⟩
def tzInst (x:S25):Nat:=x.f1.length
def okInst (x:S25):Prop:=okInt x.f0∧okIntS x.f1
def tzInstS (xs:List S25):Nat:=xs.length+(xs.map tzInst).sum
def okInstS (xs:List S25):Prop:=xs.length≤9223372036854775807∧∀x,x∈xs→okInst x
theorem sz_Inst (x:S25) (hok:okInst x) (left:Int) (h0:0≤left) (h1:left≤1048576):laws_szInst.f x.f0 x.f1 left=some (szv (tzInst x) left):=by
 obtain ⟨o0,o1⟩:=hok;have s1:laws_szIntS.f x.f1 left=some (szv (x.f1.length) left):=sz_IntS x.f1 o1.1 left (by omega) (by omega)
 by_cases c1:left<((x.f1.length:Nat):Int)
 ·have hz:szv (tzInst x) left=-1:=szv_neg (by unfold tzInst;omega)
  rw [hz];rw [szv_neg c1] at s1;unfold laws_szInst.f
  rw [s1];rfl
 ·have d1:((x.f1.length:Nat):Int)≤left:=by omega
  rw [szv_pos d1] at s1;have hz:szv (tzInst x) left=(left-((x.f1.length:Nat):Int)):=by rw [szv_pos (by unfold tzInst;omega)];unfold tzInst;omega
  rw [hz];unfold laws_szInst.f
  rw [s1];simp only [Option.bind_some];rw [if_neg (by omega)];try rfl
theorem to_Inst (x:S25) (hs:tzInst x≤1048576):Ev (fun k=>laws_toInst.f k x.f0 x.f1) (x.f0,x.f1):=by
 unfold tzInst at hs
 obtain ⟨K1,h1⟩:=to_IntS x.f1 (by omega);dsimp only at h1
 refine ⟨K1,fun k hk=>?_⟩;dsimp only
 unfold laws_toInst.f
 rw [h1 k (by omega)];simp only [Option.bind_some];try rfl
def leInst (x:S31):Prop:=x.f1.length≤9223372036854775807
theorem eq_Inst (x:S31) (hl:leInst x):Ev (fun k=>laws_eqInst.f k x.f0 x.f1 x.f0 x.f1) true:=by
 have o1:=hl;unfold leInst at o1
 obtain ⟨K1,h1⟩:=eq_IntS x.f1 o1;dsimp only at h1
 refine ⟨K1,fun k hk=>?_⟩;dsimp only
 unfold laws_eqInst.f
 rw [if_pos (by trivial)];rw [h1 k (by omega)];simp only [Option.bind_some];rw [if_pos (by trivial)]
theorem sz_InstS (xs:List S25) (hok:okInstS xs) (left:Int) (h0:0≤left) (h1:left≤1048576):Ev (fun k=>laws_szInstS.f k xs left) (szv (tzInstS xs) left):=by
 obtain ⟨ol,oe⟩:=hok;have e:wrap64 (left-(xs.length:Int))=left-(xs.length:Int):=wrap_left h0 h1 ol
 by_cases c:left-(xs.length:Int)<0
 ·have hz:szv (tzInstS xs) left=-1:=szv_neg (by unfold tzInstS;omega)
  rw [hz];refine ⟨0,fun k _=>?_⟩;dsimp only
  unfold laws_szInstS.f
  rw [e,if_pos c]
 ·have hz:szv (tzInstS xs) left=szv (xs.map tzInst).sum (left-(xs.length:Int)):=by unfold szv tzInstS;split<;>split<;>omega
  rw [hz];have key:=sz_loop xs z25 tzInst (fun k l i=>laws_szInstS.l0 k xs l i) ?_ ?_ (left-(xs.length:Int)) (by omega) (by omega)
  ·obtain ⟨K,hK⟩:=key;refine ⟨K,fun k hk=>?_⟩;dsimp only
   unfold laws_szInstS.f
   rw [e,if_neg c];exact hK k hk
  ·intro i l r hi g0 g1 hneg hpos;have hrd:rd_T25 xs (i:Int)=xs.getD i z25:=by simp [rd_T25]
   have s:=sz_Inst (xs.getD i z25) (oe _ (getD_in _ hi)) l g0 g1;by_cases c2:l<(tzInst (xs.getD i z25):Int)
   ·rw [hneg c2];rw [szv_neg c2] at s;refine ⟨0+1,fun k hk=>?_⟩;dsimp only
    obtain ⟨m,rfl⟩:∃m,k=m+1:=⟨k-1,by omega⟩;simp only [laws_szInstS.l0];rw [if_pos (by omega),if_pos (by omega),hrd,s];rfl
   ·have d2:(tzInst (xs.getD i z25):Int)≤l:=by omega
    obtain ⟨K2,h2⟩:=hpos d2;rw [szv_pos d2] at s;refine ⟨K2+1,fun k hk=>?_⟩;dsimp only
    obtain ⟨m,rfl⟩:∃m,k=m+1:=⟨k-1,by omega⟩;simp only [laws_szInstS.l0];rw [if_pos (by omega),if_pos (by omega),hrd,s];simp only [Option.bind_some];rw [if_neg (by omega),wrap_succ hi ol];exact h2 m (by omega)
  ·intro l;refine ⟨1,fun k hk=>?_⟩;dsimp only
   obtain ⟨m,rfl⟩:∃m,k=m+1:=⟨k-1,by omega⟩;simp only [laws_szInstS.l0];rw [if_neg (by omega)]
theorem to_InstS (xs:List S25) (hs:tzInstS xs≤1048576):Ev (fun k=>laws_toInstS.f k xs) (xs.map cvInst):=by
 unfold tzInstS at hs
 have key:=to_loop xs z25 cvInst (fun k out i=>laws_toInstS.l0 k xs out i) ?_ ?_ (List.replicate xs.length z31) List.length_replicate
 ·obtain ⟨K,hK⟩:=key;refine ⟨K,fun k hk=>?_⟩;dsimp only
  unfold laws_toInstS.f
  rw [if_pos (by omega),if_pos (by rw [Int.toNat_natCast];omega),Int.toNat_natCast];exact hK k hk
 ·intro i out r hi ho h;obtain ⟨K,hK⟩:=h;have hrd:rd_T25 xs (i:Int)=xs.getD i z25:=by simp [rd_T25]
  have hm:=sum_le_of_mem tzInst xs _ (getD_in z25 hi);obtain ⟨K1,h1⟩:=to_Inst (xs.getD i z25) (by omega);dsimp only at h1
  refine ⟨K1+K+1,fun k hk=>?_⟩;dsimp only
  obtain ⟨m,rfl⟩:∃m,k=m+1:=⟨k-1,by omega⟩;simp only [laws_toInstS.l0];rw [if_pos (by omega),if_pos (by omega),hrd,h1 m (by omega)];simp only [Option.bind_some];rw [if_pos (by omega),wrap_succ hi (by omega),Int.toNat_natCast];exact hK m (by omega)
 ·intro out ho;refine ⟨1,fun k hk=>?_⟩;dsimp only
  obtain ⟨m,rfl⟩:∃m,k=m+1:=⟨k-1,by omega⟩;simp only [laws_toInstS.l0];rw [if_neg (by omega)]
def leInstS (xs:List S31):Prop:=xs.length≤9223372036854775807∧∀x,x∈xs→leInst x
theorem eq_InstS (xs:List S31) (hl:leInstS xs):Ev (fun k=>laws_eqInstS.f k xs xs) true:=by
 obtain ⟨hl,he⟩:=hl;have key:=eq_loop xs.length (fun k i=>laws_eqInstS.l0 k xs xs i) ?_ ?_
 ·obtain ⟨K,hK⟩:=key;refine ⟨K,fun k hk=>?_⟩;dsimp only
  unfold laws_eqInstS.f
  rw [if_pos (by trivial)];exact hK k hk
 ·intro i hi h;obtain ⟨K,hK⟩:=h;have hrd:rd_T31 xs (i:Int)=xs.getD i z31:=by simp [rd_T31]
  obtain ⟨K1,h1⟩:=eq_Inst (xs.getD i z31) (he _ (getD_in _ hi));dsimp only at h1
  refine ⟨K1+K+1,fun k hk=>?_⟩;dsimp only
  obtain ⟨m,rfl⟩:∃m,k=m+1:=⟨k-1,by omega⟩;simp only [laws_eqInstS.l0];rw [if_pos (by omega),if_pos (by omega),if_pos (by omega),hrd,h1 m (by omega)];simp only [Option.bind_some];rw [if_pos (by trivial),wrap_succ hi hl];exact hK m (by omega)
 ·refine ⟨1,fun k hk=>?_⟩;dsimp only
  obtain ⟨m,rfl⟩:∃m,k=m+1:=⟨k-1,by omega⟩;simp only [laws_eqInstS.l0];rw [if_neg (by omega)]
theorem le_cvInst (x:S25) (hs:tzInst x≤1048576):leInst (cvInst x):=by
 unfold tzInst at hs
 exact by show x.f1.length≤_;omega
theorem le_cvInstS (xs:List S25) (hs:tzInstS xs≤1048576):leInstS (xs.map cvInst):=by
 unfold tzInstS at hs
 refine ⟨by rw [List.length_map];omega,fun y hy=>?_⟩;obtain ⟨x,hx,rfl⟩:=List.mem_map.1 hy;have:=sum_le_of_mem tzInst xs x hx
 exact le_cvInst x (by omega)
open HeapT
theorem ruleSz_cv (R:List S50) (h:okRuleS R) (hs:tzRuleS R≤1048576):∀q,q∈R.map cvRule→RuleSz q:=by
 intro q hq;obtain ⟨x,hx,rfl⟩:=List.mem_map.1 hq;have h1:=h.2 x hx;have h2:=sum_le_of_mem tzRule R x hx;unfold tzRuleS at hs
 have ht:tzRule x≤1048576:=by omega
 unfold tzRule at ht
 refine ⟨?_,fun e he=>?_⟩
 ·show x.f0.size≤maxLen;unfold maxLen;omega
 ·have he2:e∈x.f3.map cvExpr:=he
  obtain ⟨z,hz,rfl⟩:=List.mem_map.1 he2;have h3:=sum_le_of_mem tzExpr x.f3 z hz;have h4:tzExprS x.f3≤1048576:=by omega
  unfold tzExprS at h4
  have h5:tzExpr z≤1048576:=by omega
  unfold tzExpr at h5
  obtain ⟨_,_,_,oe,_⟩:=h1;have h6:=oe.2 z hz;obtain ⟨_,o1,_⟩:=h6;refine ⟨o1,?_⟩;show z.f2.size≤maxLen;unfold maxLen;omega
theorem cn_le {α β : Type} (c : β→Nat) (t : α→Nat) (f : α→β) (K:Nat) (h:∀x,c (f x)≤K*(t x+1)):∀xs:List α,cnS c (xs.map f)≤K*(xs.length+(xs.map t).sum)
 | []=>by simp [cnS]
 | x::xs=>by
  have ih:=cn_le c t f K h xs;have hx:=h x;unfold cnS at ih ⊢
  rw [List.map_cons,List.map_cons,List.sum_cons,List.map_cons,List.sum_cons,List.length_cons]
  have e:K*(xs.length+1+(t x+(xs.map t).sum))=K*(t x+1)+K*(xs.length+(xs.map t).sum):=by
   rw [←Nat.mul_add];congr 1;omega
  omega
theorem cn_ints (xs:List Int):cnS c_int xs=xs.length:=by
 induction xs with
 | nil=>rfl
 | cons x xs ih=>
  unfold cnS at ih ⊢
  rw [List.map_cons,List.sum_cons,ih,List.length_cons];unfold c_int;omega
theorem cn_Term (xs:List S160):cnS c_Term (xs.map cvTerm)≤16*tzTermS xs:=by
 unfold tzTermS
 refine cn_le c_Term tzTerm cvTerm 16 (fun x=>?_) xs;unfold c_Term;omega
theorem cn_Pattern (xs:List S112):cnS c_Pattern (xs.map cvPattern)≤16*tzPatternS xs:=by
 unfold tzPatternS
 refine cn_le c_Pattern tzPattern cvPattern 16 (fun x=>?_) xs;have h:(cvPattern x).f2=x.f2.map cvTerm:=rfl
 have:=cn_Term x.f2
 unfold c_Pattern tzPattern
 rw [h];omega
theorem cn_Expr (xs:List S116):cnS c_Expr (xs.map cvExpr)≤16*tzExprS xs:=by
 unfold tzExprS
 refine cn_le c_Expr tzExpr cvExpr 16 (fun x=>?_) xs;unfold c_Expr;omega
theorem cn_Action (xs:List S118):cnS c_Action (xs.map cvAction)≤16*tzActionS xs:=by
 unfold tzActionS
 refine cn_le c_Action tzAction cvAction 16 (fun x=>?_) xs;have h:(cvAction x).f3=x.f3:=rfl
 have:=cn_ints x.f3
 unfold c_Action tzAction
 rw [h];omega
theorem cn_Rule (xs:List S50):cnS c_Rule (xs.map cvRule)≤16*tzRuleS xs:=by
 unfold tzRuleS
 refine cn_le c_Rule tzRule cvRule 16 (fun x=>?_) xs;have h2:(cvRule x).f2=x.f2.map cvPattern:=rfl
 have h3:(cvRule x).f3=x.f3.map cvExpr:=rfl
 have h4:(cvRule x).f4=x.f4.map cvAction:=rfl
 have:=cn_Pattern x.f2
 have:=cn_Expr x.f3
 have:=cn_Action x.f4
 unfold c_Rule tzRule
 rw [h2,h3,h4];omega
theorem cnt_Inst:∀xs:List S31,(∀x,x∈xs→x.f1.length≤1048576)→cntL mnInst xs≤1048577 * xs.length
 | [],_=>by simp [cntL]
 | x::xs,h=>by
  have ih:=cnt_Inst xs (fun y hy=>h y (List.mem_cons_of_mem _ hy));have hx:=h x List.mem_cons_self;rw [cntL_cons,List.length_cons];unfold mnInst at ih ⊢
  rw [cntI];omega
theorem ev_all {α : Type} (P:Nat→α→Prop):∀l:List α,(∀x,x∈l→∃n,∀k,n≤k→P k x)→∃n,∀k,n≤k→∀x,x∈l→P k x
 | [],_=>⟨0,fun _ _ x hx=>by cases hx⟩
 | y::l,h=>by
  obtain ⟨n,hn⟩:=ev_all P l (fun x hx=>h x (List.mem_cons_of_mem _ hx));obtain ⟨m,hm⟩:=h y List.mem_cons_self;refine ⟨n+m,fun k hk x hx=>?_⟩;rcases List.mem_cons.1 hx with rfl|hx
  ·exact hm k (by omega)
  ·exact hn k (by omega) x hx
theorem agOk (R:List S58) (I:List S31) (cb:Bool) (h1:Ev (fun k=>impl_checked.f k R) cb) (hR:cb=true→R.length≤16) (hI:I.length≤1048576) (hT:∀x,x∈I→x.f1.length≤1048576):
  ∃n,∀k,n≤k→AgOk k R I (agendaL (ltP R) cb (fun x=>thereB R.length x.f0 x.f1) I):=by
 obtain ⟨n1,h1⟩:=h1
 have key:∃n,∀k,n≤k→(cb=true→I.any (fun x=>!thereB R.length x.f0 x.f1)=false→LtB k R (ltP R) I.zipIdx):=by
  by_cases c:cb=true∧I.any (fun x=>!thereB R.length x.f0 x.f1)=false
  ·obtain ⟨c1,c2⟩:=c;have hR:=hR c1
   have hg:∀x,x∈I→GoodI R x:=fun x hx=>by
    have:=(List.any_eq_false.1 c2) x hx
    have ht:thereB R.length x.f0 x.f1=true:=by simpa using this
    exact thereB_iff ht
   have hz:∀x:Pr,x∈I.zipIdx→GoodI R x.1:=fun x hx=>hg x.1 (by
    have:=List.mem_map_of_mem (f:=Prod.fst) hx
    rwa [show I.zipIdx.map Prod.fst=I from List.zipIdx_map_fst 0 I] at this)
   obtain ⟨n,hn⟩:=ev_all (fun k (x:Pr)=>∀y,y∈I.zipIdx→impl_before.f k R x.1.f0 x.1.f1 y.1.f0 y.1.f1=some (ltP R x y)) I.zipIdx (fun x hx=>
    ev_all (fun k (y:Pr)=>impl_before.f k R x.1.f0 x.1.f1 y.1.f0 y.1.f1=some (ltP R x y)) I.zipIdx (fun y hy=>by
     have g1:=hz x hx;have g2:=hz y hy;exact (before_both R x.1.f0 x.1.f1 y.1.f0 y.1.f1 g1.1 g1.2.1 g2.1 g2.2.1 (by omega) (by have:=g1.2.2;omega) (by have:=g2.2.2;omega)).2))
   exact ⟨n,fun k hk _ _ x y hx hy=>hn k hk x hx y hy⟩
  ·exact ⟨0,fun k _ c1 c2=>absurd ⟨c1,c2⟩ c⟩
 obtain ⟨n2,h2⟩:=key;exact ⟨n1+n2,fun k hk=>⟨cb,fun x=>thereB R.length x.f0 x.f1,ltP R,h1 k (by omega),fun x _=>there_impl R _ _,h2 k (by omega),hI,hT,rfl⟩⟩
theorem agendaL_sub (lt:Pr→Pr→Bool) (cb:Bool) (p:S31→Bool) (I:List S31):(agendaL lt cb p I).length≤I.length∧∀x,x∈agendaL lt cb p I→x∈I:=by
 unfold agendaL
 split
 ·exact ⟨Nat.zero_le _,fun x h=>by cases h⟩
 ·split
  ·exact ⟨Nat.zero_le _,fun x h=>by cases h⟩
  ·split
   ·exact ⟨Nat.zero_le _,fun x h=>by cases h⟩
   ·have hlen:(heapL lt I.zipIdx).length=I.length:=by rw [(heapL_perm _ _).length_eq,List.length_zipIdx]
    have d1:=((drain_perm (lt:=lt) (z:=zP) I.length (heapL lt I.zipIdx) hlen).trans (heapL_perm _ _)).map (·.1);rw [show I.zipIdx.map (·.1)=I from List.zipIdx_map_fst 0 I] at d1;exact ⟨Nat.le_of_eq d1.length_eq,fun x h=>d1.mem_iff.1 h⟩
def FnExactAgenda.Pure:Prop:=∀(l:List S50) (l1:List S25),okRuleS l→okInstS l1→∃k,laws_FnExactAgenda.f k l l1=some true
theorem FnExactAgenda:FnExactAgenda.Pure:=by
 intro l l1 hl hl1
 have suf:(∃K,∀k,K≤k→FnExactAgenda.Facts k l l1)→∃k,laws_FnExactAgenda.f k l l1=some true:=by
  rintro ⟨K,hK⟩;exact ⟨K,by unfold laws_FnExactAgenda.f;rw [if_pos (hK K (Nat.le_refl _))]⟩
 apply suf
 clear suf;obtain ⟨K1,h1⟩:=sz_RuleS l hl 1048576 (by omega) (by omega);by_cases c1:(1048576:Int)<tzRuleS l
 ·rw [szv_neg c1] at h1;exact ⟨K1,fun k hk=>⟨-1,h1 k hk,.inl (by omega)⟩⟩
 have d1:(tzRuleS l:Int)≤1048576:=by omega
 rw [szv_pos d1] at h1;obtain ⟨K2,h2⟩:=sz_InstS l1 hl1 (1048576-(tzRuleS l:Int)) (by omega) (by omega);by_cases c2:(1048576:Int)-tzRuleS l<tzInstS l1
 ·rw [szv_neg c2] at h2;exact ⟨K1+K2,fun k hk=>⟨_,h1 k (by omega),.inr ⟨by omega,-1,h2 k (by omega),.inl (by omega)⟩⟩⟩
 have d2:(tzInstS l1:Int)≤1048576-tzRuleS l:=by omega
 rw [szv_pos d2] at h2;have lI:(l1.map cvInst).length≤1048576:=by rw [List.length_map];unfold tzInstS at d2;omega
 have tI:∀x,x∈l1.map cvInst→x.f1.length≤1048576:=by
  intro x hx;obtain ⟨y,hy,rfl⟩:=List.mem_map.1 hx;have:=sum_le_of_mem tzInst l1 y hy
  unfold tzInstS at d2
  show y.f1.length≤1048576;have:tzInst y=y.f1.length:=rfl
  omega
 obtain ⟨cb,hc1,hc2,hc3⟩:=checked_both (l.map cvRule) (ruleSz_cv l hl (by omega));have hR:cb=true→(l.map cvRule).length≤16:=fun h=>(hc3 h).1
 obtain ⟨K3,h3⟩:=to_RuleS l (by omega);obtain ⟨K4,h4⟩:=to_InstS l1 (by omega);obtain ⟨K5,h5⟩:=agenda_spec (l.map cvRule) (l1.map cvInst) cb hc1 hR;obtain ⟨K6,h6⟩:=agOk (l.map cvRule) (l1.map cvInst) cb hc2 hR lI tI;obtain ⟨gL,gM⟩:=agendaL_sub (ltP (l.map cvRule)) cb (fun x=>thereB (l.map cvRule).length x.f0 x.f1) (l1.map cvInst);generalize agendaL (ltP (l.map cvRule)) cb (fun x=>thereB (l.map cvRule).length x.f0 x.f1) (l1.map cvInst)=G at *;have tG:∀x,x∈G→x.f1.length≤1048576:=fun x hx=>tI x (gM x hx)
 obtain ⟨K7,h7⟩:=eq_InstS G ⟨by omega,fun x hx=>by have:=tG x hx;unfold leInst;omega⟩;obtain ⟨K8,h8⟩:=eq_RuleS (l.map cvRule) (le_cvRuleS l (by omega));obtain ⟨K9,h9⟩:=eq_InstS (l1.map cvInst) (le_cvInstS l1 (by omega));have q1:=cn_Rule l;have q2:=cnt_Inst (l1.map cvInst) tI;have q3:=cnt_Inst G tG;obtain ⟨KA,hA⟩:=markInsts (l1.map cvInst) (1+(cnS c_Rule (l.map cvRule):Int)) (fun x hx=>by have:=tI x hx;omega) (by omega) (by omega);obtain ⟨KB,hB⟩:=markInsts G 1 (fun x hx=>by have:=tG x hx;omega) (by omega) (by omega);obtain ⟨KC,hC⟩:=heldInsts G 1 (by omega) (by omega) (by omega)
 exact ⟨K1+K2+K3+K4+K5+K6+K7+K8+K9+KA+KB+KC,fun k hk=>⟨_,h1 k (by omega),.inr ⟨by omega,_,h2 k (by omega),.inr ⟨by omega,l.map cvRule,l1.map cvInst,G,(1+(cnS c_Rule (l.map cvRule):Int)+(cntL mnInst (l1.map cvInst):Int),mkL mkInst mnInst (1+(cnS c_Rule (l.map cvRule):Int)) (l1.map cvInst)),(1+(cntL mnInst G:Int),mkL mkInst mnInst 1 G),
  h3 k (by omega),h4 k (by omega),h5 k (by omega),h6 k (by omega),h7 k (by omega),h8 k (by omega),h9 k (by omega),by omega,hA k (by omega),by dsimp only;omega,hB k (by omega),hC k (by omega),by dsimp only;omega⟩⟩⟩⟩
end Go.Proofs.YtejjlkbbnhpbdaaGreat.Pure
namespace Go.Proofs.YtejjlkbbnhpbdaaGreatX
open Go.RowKit Go.Proofs.YtejjlkbbnhpbdaaGreatW.PrintWords
set_option linter.unusedVariables false
set_option linter.unusedSimpArgs false
def Rdb {α : Type} (P:Program) (W:World) (T:TypeId) (d:Kd α) (ok : α→Prop):Prop:=
 ∀(H:Type) (enc:TypeId×Value→H) (sp:Nat→Bool) (fuel:Nat) (cs:List Value) (r:DataW H×List MemPlace),DataW.trod enc P W 0 sp true fuel T cs=some r→∃x,d.K W x cs∧ok x
section
variable {P:Program} {W:World} {T:TypeId}
theorem rdb_bool (hu:P.underlying T=some .bool):Rdb P W T Kd.bool (fun _=>True):=by
 intro H enc sp fuel cs r h;obtain ⟨n,rfl,_⟩:=DataW.trod_bool hu h;exact ⟨n,rfl,trivial⟩
theorem rdb_string (hu:P.underlying T=some .string):Rdb P W T Kd.string (fun s=>s.size≤9223372036854775807):=by
 intro H enc sp fuel cs r h;obtain ⟨s,rfl,_,hs⟩:=DataW.trod_string hu h;exact ⟨s,rfl,by simpa [maxLen] using hs⟩
theorem list_choice {α : Type} (Q:Nat→α→Prop):∀n,(∀i,i<n→∃x,Q i x)→∃xs:List α,xs.length=n∧∀i x,xs[i]?=some x→Q i x
 | 0,_=>⟨[],rfl,fun i x h=>by simp at h⟩
 | n+1,h=>by
  obtain ⟨xs,hl,hx⟩:=list_choice Q n (fun i hi=>h i (by omega));obtain ⟨y,hy⟩:=h n (by omega);refine ⟨xs++[y],by simp [hl],fun i x hi=>?_⟩;rcases Nat.lt_or_ge i xs.length with c|c
  ·rw [List.getElem?_append_left c] at hi;exact hx i x hi
  ·rw [List.getElem?_append_right c] at hi
   have e:i-xs.length=0:=by
    rcases Nat.eq_zero_or_pos (i-xs.length) with e|e
    ·exact e
    ·rw [List.getElem?_eq_none (by simp;omega)] at hi;cases hi
   rw [e] at hi;have:y=x:=by simpa using hi
   rw [←this,show i=n by omega];exact hy
theorem add_plus (a:Addr) (m n:Nat):(a.add m).add n=a.add (m+n):=by
 unfold Addr.add
 by_cases h1:m=0
 ·subst h1;simp
 ·by_cases h2:n=0
  ·subst h2;simp
  ·simp [h1,h2];omega
theorem rdb_slice {α : Type} {d:Kd α} {ok : α→Prop} {e:TypeId} (hu:P.underlying T=some (.slice e)) (hc:P.cellsOf e=d.sz) (he:Rdb P W e d ok):
  Rdb P W T (Kd.slice e d) (fun xs=>xs.length≤9223372036854775807∧∀x,x∈xs→ok x):=by
 intro H enc sp fuel cs r h;rcases DataW.trod_slice hu h with ⟨rfl,_⟩|⟨a,len,cap,elems,rest,n,_,rfl,_,_,hl,hcap,hel,hrd,_,_⟩
 ·exact ⟨[],⟨none,0,rfl,Nat.le_refl _,rfl,by simp,fun h=>absurd h (by simp)⟩,by simp,fun x hx=>absurd hx (by simp)⟩
 ·have hex:∀i,i<len→∃x,∃c,c.length=d.sz∧d.K W x c∧(∀j u,c[j]?=some u→W.cell? (a.add (i * d.sz+j))=some u)∧ok x:=by
   intro i hi;have h1:=hrd i hi;rw [List.getElem?_eq_getElem (by omega)] at h1;obtain ⟨c,h2,h3⟩:=Option.bind_eq_some_iff.1 h1;obtain ⟨x,hx,hok⟩:=he H enc sp n c _ h3;obtain ⟨_,h5,h6⟩:=World.cells?_some h2;refine ⟨x,c,d.K_len hx,hx,fun j u hj=>?_,hok⟩
   have hlt:j<P.cellsOf e:=by
    have:=(List.getElem?_eq_some_iff.1 hj).1
    omega
   have h7:=h6 j hlt;rw [hj,hc,add_plus] at h7;exact h7
  obtain ⟨xs,hxl,hxs⟩:=list_choice _ len hex;refine ⟨xs,⟨some a,cap,by rw [hxl],by omega,rfl,by simp [maxLen] at hcap;omega,fun _=>⟨a,rfl,fun j p hj=>?_⟩⟩,by simp [maxLen] at hcap;omega,fun x hx=>?_⟩
  ·obtain ⟨c,h1,h2,h3,_⟩:=hxs j p hj;exact ⟨c,h1,h2,h3⟩
  ·obtain ⟨i,hi,e⟩:=List.getElem_of_mem hx;obtain ⟨c,_,_,_,h4⟩:=hxs i x (by rw [List.getElem?_eq_getElem hi,e]);exact h4
theorem rdb_i64 (hu:P.underlying T=some (.int .i64)):Rdb P W T (Kd.int .i64) okInt:=by
 intro H enc sp fuel cs r h;obtain ⟨n,rfl,_,hw⟩:=DataW.trod_int hu h;refine ⟨n,rfl,?_⟩;simp only [Lit.wf,Bool.and_eq_true,decide_eq_true_eq] at hw;exact hw
theorem rdb_u8 (hu:P.underlying T=some (.int .u8)):Rdb P W T (Kd.int .u8) okByte:=by
 intro H enc sp fuel cs r h;obtain ⟨n,rfl,_,hw⟩:=DataW.trod_int hu h;refine ⟨n,rfl,?_⟩;simp only [Lit.wf,Bool.and_eq_true,decide_eq_true_eq] at hw;exact hw
theorem len_s {α : Type} {cs:List α} {n:Nat} (h:cs.length=n+1):∃a r,cs=a::r∧r.length=n:=by
 cases cs with
 | nil=>cases h
 | cons a r=>exact ⟨a,r,rfl,by simpa using h⟩
theorem len_z {α : Type} {cs:List α} (h:cs.length=0):cs=[]:=List.length_eq_zero_iff.1 h
end
end Go.Proofs.YtejjlkbbnhpbdaaGreatX
