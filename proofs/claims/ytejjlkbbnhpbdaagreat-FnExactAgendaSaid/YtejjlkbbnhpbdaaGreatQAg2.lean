/- The row of the law FnExactAgenda: for every input the call returns true, and each argument reads behind it as it read before; no condition of ours. -/
import Derived.Test.YtejjlkbbnhpbdaaGreatQAg1
namespace Go.Proofs.YtejjlkbbnhpbdaaGreatX
open Go.RowKit Go.Proofs.YtejjlkbbnhpbdaaGreatW.PrintWords
set_option linter.unusedVariables false
set_option linter.unusedSimpArgs false
def okInt (x:Int):Prop:=-9223372036854775808≤x∧x≤9223372036854775807
def okByte (x:Int):Prop:=0≤x∧x≤255
def okIntS (xs:List Int):Prop:=xs.length≤9223372036854775807∧∀x,x∈xs→okInt x
theorem wrap_succ {i n:Nat} (h:i<n) (hn:n≤9223372036854775807):wrap64 ((i:Int)+1)=((i+1:Nat):Int):=by
 unfold wrap64
 omega
theorem up_ind {n:Nat} {P:Nat→Prop} (he:P n) (hs:∀i,i<n→P (i+1)→P i):∀i,i≤n→P i:=by
 intro i hi;obtain ⟨d,hd⟩:∃d,n=i+d:=⟨n-i,by omega⟩;induction d generalizing i with
 | zero=>rw [show i=n by omega];exact he
 | succ d ih=>exact hs i (by omega) (ih (i+1) (by omega) (by omega))
theorem getD_lt {α : Type} {xs:List α} {i:Nat} (z : α) (h:i<xs.length):xs.getD i z=xs[i]:=by
 rw [List.getD_eq_getElem?_getD,List.getElem?_eq_getElem h];rfl
theorem drop_getD {α : Type} {xs:List α} {i:Nat} (z : α) (h:i<xs.length):xs.drop i=xs.getD i z::xs.drop (i+1):=by
 rw [getD_lt z h];exact List.drop_eq_getElem_cons h
theorem getD_in {α : Type} {xs:List α} {k:Nat} (z : α) (h:k<xs.length):xs.getD k z∈xs:=by
 rw [getD_lt z h];exact List.getElem_mem h
def szv (t:Nat) (left:Int):Int:=if (t:Int)≤left then left-t else -1
theorem szv_pos {t:Nat} {left:Int} (h:(t:Int)≤left):szv t left=left-t:=if_pos h
theorem szv_neg {t:Nat} {left:Int} (h:left<t):szv t left=-1:=if_neg (by omega)
theorem wrap_left {left:Int} {a:Nat} (h0:0≤left) (h1:left≤1048576) (ha:a≤9223372036854775807):wrap64 (left-(a:Int))=left-a:=by
 unfold wrap64
 omega
theorem sz_loop {α : Type} (xs:List α) (z : α) (tz : α→Nat) (L:Nat→Int→Int→Option Int)
  (hstep:∀(i:Nat) (left r:Int),i<xs.length→0≤left→left≤1048576→(left<tz (xs.getD i z)→r=-1)→
   ((tz (xs.getD i z):Int)≤left→Ev (fun k=>L k (left-tz (xs.getD i z)) ((i+1:Nat):Int)) r)→Ev (fun k=>L k left (i:Int)) r)
  (hend:∀left,Ev (fun k=>L k left (xs.length:Int)) left):
  ∀left,0≤left→left≤1048576→Ev (fun k=>L k left 0) (szv (xs.map tz).sum left):=by
 have key:∀i,i≤xs.length→∀left,0≤left→left≤1048576→Ev (fun k=>L k left (i:Int)) (szv ((xs.drop i).map tz).sum left):=by
  refine up_ind ?_ ?_
  ·intro left h0 h1;rw [List.drop_length,List.map_nil,List.sum_nil,szv_pos (by omega)];rw [show left-((0:Nat):Int)=left by omega];exact hend left
  ·intro i hi ih left h0 h1;rw [drop_getD z hi,List.map_cons,List.sum_cons];refine hstep i left _ hi h0 h1 (fun h=>szv_neg (by omega)) (fun h=>?_)
   have e:szv (tz (xs.getD i z)+((xs.drop (i+1)).map tz).sum) left=szv ((xs.drop (i+1)).map tz).sum (left-tz (xs.getD i z)):=by
    unfold szv
    split<;>split<;>omega
   rw [e];exact ih _ (by omega) (by omega)
 intro left h0 h1;have:=key 0 (Nat.zero_le _) left h0 h1
 rw [List.drop_zero] at this;exact this
theorem to_loop {α β : Type} (xs:List α) (z : α) (f : α→β) (L:Nat→List β→Int→Option (List β))
  (hstep:∀(i:Nat) (out r:List β),i<xs.length→out.length=xs.length→Ev (fun k=>L k (out.set i (f (xs.getD i z))) ((i+1:Nat):Int)) r→Ev (fun k=>L k out (i:Int)) r)
  (hend:∀out,out.length=xs.length→Ev (fun k=>L k out (xs.length:Int)) out):∀out,out.length=xs.length→Ev (fun k=>L k out 0) (xs.map f):=by
 have key:∀i,i≤xs.length→∀out:List β,out.length=xs.length→Ev (fun k=>L k out (i:Int)) (out.take i++(xs.drop i).map f):=by
  refine up_ind ?_ ?_
  ·intro out ho;rw [List.drop_length,List.map_nil,List.append_nil,←ho,List.take_length,ho];exact hend out ho
  ·intro i hi ih out ho;refine hstep i out _ hi ho ?_;have:=ih (out.set i (f (xs.getD i z))) (by simpa using ho)
   have e:(out.set i (f (xs.getD i z))).take (i+1)++(xs.drop (i+1)).map f=out.take i++(xs.drop i).map f:=by
    rw [drop_getD z hi,List.map_cons,List.take_succ_eq_append_getElem (by simpa [ho] using hi),List.take_set_of_le (Nat.le_refl i)];simp
   rw [e] at this;exact this
 intro out ho;have:=key 0 (Nat.zero_le _) out ho
 simpa using this
theorem eq_loop (n:Nat) (L:Nat→Int→Option Bool) (hstep:∀i:Nat,i<n→Ev (fun k=>L k ((i+1:Nat):Int)) true→Ev (fun k=>L k (i:Int)) true)
  (hend:Ev (fun k=>L k (n:Int)) true):Ev (fun k=>L k 0) true:=by
 have:=up_ind (P:=fun i=>Ev (fun k=>L k (i:Int)) true) hend (fun i hi h=>hstep i hi h) 0 (Nat.zero_le _)
 exact this
theorem sum_le_of_mem {α : Type} (f : α→Nat):∀(xs:List α) (x : α),x∈xs→f x≤(xs.map f).sum
 | [],x,h=>absurd h (by simp)
 | y::ys,x,h=>by
  rw [List.map_cons,List.sum_cons];rcases List.mem_cons.1 h with h|h
  ·rw [h];omega
  ·have:=sum_le_of_mem f ys x h;omega
end Go.Proofs.YtejjlkbbnhpbdaaGreatX
namespace Go.Proofs.YtejjlkbbnhpbdaaGreatX
open Go Go.RowKit Go.Proofs.YtejjlkbbnhpbdaaGreatW.PrintWords
set_option linter.unusedVariables false
set_option linter.unusedSimpArgs false
theorem a_ {p:Prop} (h:p):Aside0 p:=⟨h⟩
section
variable {B g k:Nat} {w x y z:World} {o:Obj}
theorem mb_ (h:Aside0 (Below B w x)) (f:Below B w x→Below B w y:=by intro h;repeat (first|(with_reducible first|exact h|apply below_alloc|apply pw_below_drewN|apply below_drew1|refine below_set ?_ (Aside0.out (by assumption)))|exact h)):Below B w y:=f h.out
theorem ms_ (h:Aside0 (Below w.heap.size w x)) (hb:Below y.heap.size y z) (f:Below w.heap.size w x→Below w.heap.size w y:=by intro h;repeat (first|(with_reducible first|exact h|apply below_alloc|apply pw_below_drewN|apply below_drew1|refine below_set ?_ (Aside0.out (by assumption)))|exact h)):Aside0 (Below w.heap.size w z):=⟨below_step (f h.out) hb⟩
theorem mg_ (h:Aside0 (Below w.heap.size w x)) (hg:g=y.heap.size) (f:Below w.heap.size w x→Below w.heap.size w y:=by intro h;repeat (first|(with_reducible first|exact h|apply below_alloc|apply pw_below_drewN|apply below_drew1|refine below_set ?_ (Aside0.out (by assumption)))|exact h)):Aside0 (w.heap.size≤g):=⟨hg▸below_size (f h.out)⟩
theorem mc_ (h:Aside0 (x.heap[k]?=some o)) (f:x.heap[k]?=some o→y.heap[k]?=some o:=by intro h;(with_reducible repeat (first|refine blk_drewN ?_ _|refine blk_drew ?_|refine blk_alloc ?_ _|refine blk_far ?_ (Aside0.out (by assumption)) _));exact h):y.heap[k]?=some o:=f h.out
theorem mk_ (h:Aside0 (x.heap[k]?=some o)) (hb:Below y.heap.size y z) (f:x.heap[k]?=some o→y.heap[k]?=some o:=by intro h;(with_reducible repeat (first|refine blk_drewN ?_ _|refine blk_drew ?_|refine blk_alloc ?_ _|refine blk_far ?_ (Aside0.out (by assumption)) _));exact h):Aside0 (z.heap[k]?=some o):=⟨blk_below (f h.out) hb⟩
theorem ml_ (h:Aside0 (x.heap[k]?=some o)) (hg:g=y.heap.size) (f:x.heap[k]?=some o→y.heap[k]?=some o:=by intro h;(with_reducible repeat (first|refine blk_drewN ?_ _|refine blk_drew ?_|refine blk_alloc ?_ _|refine blk_far ?_ (Aside0.out (by assumption)) _));exact h):Aside0 (k≠g):=⟨by rw [hg];exact Nat.ne_of_lt (blk_lt (f h.out))⟩
theorem mr_ (h:Aside0 (x.heap[k]?=some o)) (hg:g=y.heap.size) (f:x.heap[k]?=some o→y.heap[k]?=some o:=by intro h;(with_reducible repeat (first|refine blk_drewN ?_ _|refine blk_drew ?_|refine blk_alloc ?_ _|refine blk_far ?_ (Aside0.out (by assumption)) _));exact h):Aside0 (g≠k):=⟨by rw [hg];exact Nat.ne_of_gt (blk_lt (f h.out))⟩
theorem mx_ {p:Addr} {v:Value} (h:Aside0 (Below w.heap.size w x)) (hx:w.cell? p=some v):x.cell? p=some v:=(h.out.cell (World.block_lt_of_cell? w _ hx)).trans hx
end
section
variable {α : Type} {d:Kd α} {e base:Nat} {ok:Nat→Prop} {w x:World} {v:Value} {xs:List α}
theorem mo_ (h:d.R e w base ok v xs) (f:d.R e w base ok v xs→d.R e x base ok v xs:=by intro h;(with_reducible repeat (first|apply Kd.R_alloc|apply Kd.R_drewN|apply Kd.R_drew));exact h):d.R e x base ok v xs:=f h
end
section
variable {α : Type} {d:Kd α} {e base A n:Nat} {ok:Nat→Prop} {w x y z:World} {v:Value} {xs:List α}
theorem mt_ {w0:World} {A:Option Addr} {n:Nat} (h:Aside0 (d.C w0 A n xs)) (hb:Aside0 (Below w0.heap.size w0 x)) (f:d.C x A n xs→d.C y A n xs:=by intro h;repeat (first|exact h|(with_reducible refine Kd.C_alloc ?_ _)|(with_reducible refine Kd.C_drewN ?_ _)|(with_reducible refine Kd.C_drew ?_))):d.C y A n xs:=f (Kd.C_below h.out hb.out)
theorem mf_ {g:Nat} {cs:Array Value} {t:TypeId} (h:Aside0 (d.R e w base ok v xs)) (hb:Aside0 (w.heap[g]?=some (.cells cs t (0,0)))) (f:d.R e w base (fun k=>ok k∧k≠g) v xs→d.R e y base (fun k=>ok k∧k≠g) v xs:=by intro h;(with_reducible repeat (first|apply Kd.R_alloc|apply Kd.R_drewN|apply Kd.R_drew|refine Kd.R_far ?_ (fun _ hk=>hk.2) _));exact h) (ht:∀q,q∈e::d.E→q≠t:=by decide):d.R e y base (fun k=>ok k∧k≠g) v xs:=f (Kd.R_types h.out hb.out ht)
end
section
variable {g k:Nat} {x y w:World} {cs cs0 cs1 cs2:Array Value} {t:TypeId}
theorem farE {p:Addr} (hp:g≠p.block) (u:Value):(w.setCell p u).heap[g]?=w.heap[g]?:=Below.heap_setCell w p u g hp
theorem blk_setI (h:w.heap[g]?=some (.cells cs t (0,0))) (i:Nat) (v:Value):(w.setCell ⟨g,i,none⟩ v).heap[g]?=some (.cells (cs.setIfInBounds i v) t (0,0)):=blk_put h i v rfl
theorem mp_ (h:Aside0 (x.heap[k]?=some (.cells cs0 t (0,0)))) (f:x.heap[k]?=some (.cells cs0 t (0,0))→y.heap[k]?=some (.cells cs1 t (0,0)):=by intro h;(with_reducible repeat (first|refine blk_drewN ?_ _|refine blk_drew ?_|refine blk_alloc ?_ _|apply blk_setI|refine Eq.trans (farE (Aside0.out (by assumption)) _) ?_));exact h) (e:cs1=cs2:=by rfl):y.heap[k]?=some (.cells cs2 t (0,0)):=e▸f h.out
end
theorem ob_ {α β : Type} {x:Option α} {f : α→Option β} {b : β} (h:x.bind f=some b):∃a,Aside0 (x=some a)∧f a=some b:=by
 obtain ⟨a,h1,h2⟩:=Option.bind_eq_some_iff.1 h;exact ⟨a,⟨h1⟩,h2⟩
theorem bq_ {α : Type} [BEq α] [LawfulBEq α] {a b : α} (h:a=b):(a==b)=true∧(a != b)=false:=⟨beq_iff_eq.mpr h,bne_eq_false_iff_eq.mpr h⟩
theorem bn_ {α : Type} [BEq α] [LawfulBEq α] {a b : α} (h:¬a=b):(a==b)=false∧(a != b)=true:=⟨beq_eq_false_iff_ne.mpr h,bne_iff_ne.mpr h⟩
section
variable {g k:Nat} {w x y z:World} {o:Obj}
theorem mn_ (h:Aside0 (x.heap[k]?=some o)) (hg:g=y.heap.size) (f:x.heap[k]?=some o→y.heap[k]?=some o:=by intro h;(with_reducible repeat (first|refine blk_drewN ?_ _|refine blk_drew ?_|refine blk_alloc ?_ _|refine blk_far ?_ (Aside0.out (by assumption)) _));exact h):Aside0 (k≠g)∧Aside0 (g≠k):=⟨ml_ h hg f,mr_ h hg f⟩
end
section
variable {α : Type} {d:Kd α} {e base:Nat} {ok:Nat→Prop} {w x y z:World} {v:Value} {xs:List α}
theorem ro_ (h:Aside0 (d.R e x base ok v xs)) (hb:Below y.heap.size y z) (f:d.R e x base ok v xs→d.R e y base ok v xs:=by intro h;(with_reducible repeat (first|apply Kd.R_alloc|apply Kd.R_drewN|apply Kd.R_drew));exact h):Aside0 (d.R e z base ok v xs):=⟨Kd.R_below (f h.out) hb⟩
end
section
variable {g:Nat} {w:World} {cs:Array Value} {t:TypeId} {v:Value}
theorem bk_ (h:Aside0 (w.heap[g]?=some (.cells cs t (0,0)))) (i:Nat) (e:cs[i]?=some v:=by exact rfl):w.cell? ⟨g,i,none⟩=some v:=(blk_cell h.out i).trans e
end
theorem ct_ {p:Prop} [Decidable p] (h:p):decide p=true:=decide_eq_true h
theorem cf_ {p:Prop} [Decidable p] (h:¬p):decide p=false:=decide_eq_false h
theorem oi_ {α : Type} {a b : α} (h:some a=some b):a=b:=Option.some.inj h
theorem mq_ {p:Prop} (h:p:=by first|rfl|(simp;done)|(simp [*];done)):p:=h
theorem me_ {p:Prop} (h:p:=by first|rfl|(simp [errW_none,errW_some]<;>rfl)|(simp [*,errW_none,errW_some]<;>rfl)):p:=h
theorem mw_ {p:Prop} (h:p:=by (try simp only [List.map_toArray,List.map_cons,List.map_nil]);first|done|rfl|(simp only [List.length_drop,List.length_take];rfl)):p:=h
theorem md_ {p:Prop} [Decidable p] (h:decide p=true:=by first|(with_reducible assumption)|assumption):p:=of_decide_eq_true h
section
variable {P:Program} {ops:Array Oper} {rest:List Oper} {o:Oper} {a:Act} {Q:Exit→Act→World→Prop} {W:World}
theorem bh_ {w x:World} (N:Tmp) (cs:Array Value) (t:TypeId) (HB:Aside0 (Below w.heap.size w x))
  (h:∀g,g=W.heap.size→∀w1,Aside0 (w1.heap[g]?=some (.cells cs t (0,0)))→Aside0 (w.heap.size≤g)→Below W.heap.size W w1→wpList P ops Q rest (a.put o.dst (.pointer (some ⟨g,0,none⟩))) w1)
  (hd:o.dst=some N:=by with_reducible rfl) (hgd:o.guard=none:=by rfl) (hr:(execOp a.eval o).run P W=.ok (.value (.pointer (some ⟨W.heap.size,0,none⟩))) (W.alloc (.cells cs t (0,0))):=by first|(go_simp;done)|(go_simp;rfl))
  (f:Below w.heap.size w x→Below w.heap.size w W:=by intro h;repeat (first|(with_reducible first|exact h|apply below_alloc|apply pw_below_drewN|apply below_drew1|refine below_set ?_ (Aside0.out (by assumption)))|exact h)):wpList P ops Q (o::rest) a W:=
 box_event hgd hd hr fun g hg w1 hb hl=>h g hg w1 ⟨hb⟩ ⟨hg▸below_size (f HB.out)⟩ hl
end
section
variable {w:World} {g:Nat} {t:TypeId} {a0 a1 a2 a3 a4 a5 a6 a7 a8 a9:Value}
theorem cz2 (h:Aside0 (w.heap[g]?=some (.cells #[a0,a1] t (0,0)))):w.cell? ⟨g,0,none⟩=some a0∧w.cell? ⟨g,1,none⟩=some a1∧w.frozen? ⟨g,0,none⟩=false∧w.frozen? ⟨g,1,none⟩=false:=⟨(blk_cell h.out 0).trans rfl,(blk_cell h.out 1).trans rfl,blk_frozen h.out 0,blk_frozen h.out 1⟩
theorem cz3 (h:Aside0 (w.heap[g]?=some (.cells #[a0,a1,a2] t (0,0)))):w.cell? ⟨g,0,none⟩=some a0∧w.cell? ⟨g,1,none⟩=some a1∧w.cell? ⟨g,2,none⟩=some a2∧w.frozen? ⟨g,0,none⟩=false∧w.frozen? ⟨g,1,none⟩=false∧w.frozen? ⟨g,2,none⟩=false:=⟨(blk_cell h.out 0).trans rfl,(blk_cell h.out 1).trans rfl,(blk_cell h.out 2).trans rfl,blk_frozen h.out 0,blk_frozen h.out 1,blk_frozen h.out 2⟩
theorem cz4 (h:Aside0 (w.heap[g]?=some (.cells #[a0,a1,a2,a3] t (0,0)))):w.cell? ⟨g,0,none⟩=some a0∧w.cell? ⟨g,1,none⟩=some a1∧w.cell? ⟨g,2,none⟩=some a2∧w.cell? ⟨g,3,none⟩=some a3∧w.frozen? ⟨g,0,none⟩=false∧w.frozen? ⟨g,1,none⟩=false∧w.frozen? ⟨g,2,none⟩=false∧w.frozen? ⟨g,3,none⟩=false:=⟨(blk_cell h.out 0).trans rfl,(blk_cell h.out 1).trans rfl,(blk_cell h.out 2).trans rfl,(blk_cell h.out 3).trans rfl,blk_frozen h.out 0,blk_frozen h.out 1,blk_frozen h.out 2,blk_frozen h.out 3⟩
theorem cz5 (h:Aside0 (w.heap[g]?=some (.cells #[a0,a1,a2,a3,a4] t (0,0)))):w.cell? ⟨g,0,none⟩=some a0∧w.cell? ⟨g,1,none⟩=some a1∧w.cell? ⟨g,2,none⟩=some a2∧w.cell? ⟨g,3,none⟩=some a3∧w.cell? ⟨g,4,none⟩=some a4∧w.frozen? ⟨g,0,none⟩=false∧w.frozen? ⟨g,1,none⟩=false∧w.frozen? ⟨g,2,none⟩=false∧w.frozen? ⟨g,3,none⟩=false∧w.frozen? ⟨g,4,none⟩=false:=⟨(blk_cell h.out 0).trans rfl,(blk_cell h.out 1).trans rfl,(blk_cell h.out 2).trans rfl,(blk_cell h.out 3).trans rfl,(blk_cell h.out 4).trans rfl,blk_frozen h.out 0,blk_frozen h.out 1,blk_frozen h.out 2,blk_frozen h.out 3,blk_frozen h.out 4⟩
theorem cz6 (h:Aside0 (w.heap[g]?=some (.cells #[a0,a1,a2,a3,a4,a5] t (0,0)))):w.cell? ⟨g,0,none⟩=some a0∧w.cell? ⟨g,1,none⟩=some a1∧w.cell? ⟨g,2,none⟩=some a2∧w.cell? ⟨g,3,none⟩=some a3∧w.cell? ⟨g,4,none⟩=some a4∧w.cell? ⟨g,5,none⟩=some a5∧w.frozen? ⟨g,0,none⟩=false∧w.frozen? ⟨g,1,none⟩=false∧w.frozen? ⟨g,2,none⟩=false∧w.frozen? ⟨g,3,none⟩=false∧w.frozen? ⟨g,4,none⟩=false∧w.frozen? ⟨g,5,none⟩=false:=⟨(blk_cell h.out 0).trans rfl,(blk_cell h.out 1).trans rfl,(blk_cell h.out 2).trans rfl,(blk_cell h.out 3).trans rfl,(blk_cell h.out 4).trans rfl,(blk_cell h.out 5).trans rfl,blk_frozen h.out 0,blk_frozen h.out 1,blk_frozen h.out 2,blk_frozen h.out 3,blk_frozen h.out 4,blk_frozen h.out 5⟩
theorem cz8 (h:Aside0 (w.heap[g]?=some (.cells #[a0,a1,a2,a3,a4,a5,a6,a7] t (0,0)))):w.cell? ⟨g,0,none⟩=some a0∧w.cell? ⟨g,1,none⟩=some a1∧w.cell? ⟨g,2,none⟩=some a2∧w.cell? ⟨g,3,none⟩=some a3∧w.cell? ⟨g,4,none⟩=some a4∧w.cell? ⟨g,5,none⟩=some a5∧w.cell? ⟨g,6,none⟩=some a6∧w.cell? ⟨g,7,none⟩=some a7∧w.frozen? ⟨g,0,none⟩=false∧w.frozen? ⟨g,1,none⟩=false∧w.frozen? ⟨g,2,none⟩=false∧w.frozen? ⟨g,3,none⟩=false∧w.frozen? ⟨g,4,none⟩=false∧w.frozen? ⟨g,5,none⟩=false∧w.frozen? ⟨g,6,none⟩=false∧w.frozen? ⟨g,7,none⟩=false:=⟨(blk_cell h.out 0).trans rfl,(blk_cell h.out 1).trans rfl,(blk_cell h.out 2).trans rfl,(blk_cell h.out 3).trans rfl,(blk_cell h.out 4).trans rfl,(blk_cell h.out 5).trans rfl,(blk_cell h.out 6).trans rfl,(blk_cell h.out 7).trans rfl,blk_frozen h.out 0,blk_frozen h.out 1,blk_frozen h.out 2,blk_frozen h.out 3,blk_frozen h.out 4,blk_frozen h.out 5,blk_frozen h.out 6,blk_frozen h.out 7⟩
end
end Go.Proofs.YtejjlkbbnhpbdaaGreatX
