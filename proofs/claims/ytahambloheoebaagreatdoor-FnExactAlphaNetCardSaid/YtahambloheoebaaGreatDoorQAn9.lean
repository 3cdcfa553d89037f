/- The row of the law FnExactAlphaNet: for every input the call returns true, and each argument reads behind it as it read before; no condition of ours. -/
import Derived.ChangeArms
import Derived.DataReads
import Derived.WideShapes
import Derived.Test.YtahambloheoebaaGreatDoorQAn8
set_option linter.unusedVariables false
set_option linter.unusedSimpArgs false
namespace Go.Proofs.YtahambloheoebaaGreatDoor.Pure
open Go.RowKit Go.Proofs.YtahambloheoebaaGreatDoor.P Go.Proofs.YtahambloheoebaaGreatDoorW.PrintWords Go.Proofs.YtahambloheoebaaGreatDoorW.PrintLast Go.Proofs.YtahambloheoebaaGreatDoorX
theorem sz_IntS (xs:List Int) (ol:xs.length≤9223372036854775807) (left:Int) (h0:0≤left) (h1:left≤1048576):laws_szIntS.f xs left=some (szv xs.length left):=by
 have e:wrap64 (left-(xs.length:Int))=left-(xs.length:Int):=wrap_left h0 h1 ol
 unfold laws_szIntS.f
 rw [e];by_cases c:left-(xs.length:Int)<0
 ·rw [if_pos c,wj_ (by omega)]
 ·rw [if_neg c,szv_pos (by omega)]
theorem to_IntS (xs:List Int) (hs:xs.length≤1048576):Ev (fun k=>xb_.f k xs) xs:=by
 have key:=to_loop xs (0:Int) id (fun k out i=>xb_.l0 k xs out i) ?_ ?_ (List.replicate xs.length (0:Int)) List.length_replicate
 ·obtain ⟨K,hK⟩:=key;refine ⟨K,fun k hk=>?_⟩;dsimp only
  unfold xb_.f
  rw [if_pos (by omega),if_pos (by rw [Int.toNat_natCast];omega),Int.toNat_natCast];have:=hK k hk
  rw [List.map_id] at this;exact this
 ·intro i out r hi ho h;obtain ⟨K,hK⟩:=h;have hrd:rd xs (i:Int)=xs.getD i 0:=by simp [rd]
  refine ⟨K+1,fun k hk=>?_⟩;dsimp only
  obtain ⟨m,rfl⟩:∃m,k=m+1:=⟨k-1,by omega⟩;simp only [xb_.l0];rw [if_pos (by omega),if_pos (by omega),if_pos (by omega),hrd,x7_ hi (by omega),Int.toNat_natCast];exact hK m (by omega)
 ·intro out ho;refine ⟨1,fun k hk=>?_⟩;dsimp only
  obtain ⟨m,rfl⟩:∃m,k=m+1:=⟨k-1,by omega⟩;simp only [xb_.l0];rw [if_neg (by omega)]
theorem eq_IntS (xs:List Int) (hl:xs.length≤9223372036854775807):Ev (fun k=>yi_.f k xs xs) true:=by
 have key:=eq_loop xs.length (fun k i=>yi_.l0 k xs xs i) ?_ ?_
 ·obtain ⟨K,hK⟩:=key;refine ⟨K,fun k hk=>?_⟩;dsimp only
  unfold yi_.f
  rw [if_pos (by trivial)];exact hK k hk
 ·intro i hi h;obtain ⟨K,hK⟩:=h;refine ⟨K+1,fun k hk=>?_⟩;dsimp only
  obtain ⟨m,rfl⟩:∃m,k=m+1:=⟨k-1,by omega⟩;simp only [yi_.l0];rw [if_pos (by omega),if_pos (by omega),if_pos (by omega),if_pos (by trivial),x7_ hi hl];exact hK m (by omega)
 ·refine ⟨1,fun k hk=>?_⟩;dsimp only
  obtain ⟨m,rfl⟩:∃m,k=m+1:=⟨k-1,by omega⟩;simp only [yi_.l0];rw [if_neg (by omega)]
def cvValue (x:S183):S80:=⟨x.f0,x.f1,x.f2⟩
def tzValue (x:S183):Nat:=x.f2.size
def okValue (x:S183):Prop:=okInt x.f0∧okInt x.f1∧x.f2.size≤9223372036854775807
theorem sz_Value (x:S183) (hok:okValue x) (left:Int) (h0:0≤left) (h1:left≤1048576):laws_szValue.f x.f0 x.f1 x.f2 left=some (szv (tzValue x) left):=by
 obtain ⟨o0,o1,o2⟩:=hok;have e2:wrap64 (left-(x.f2.size:Int))=left-(x.f2.size:Int):=wrap_left (by omega) (by omega) o2
 by_cases c2:left-(x.f2.size:Int)<0
 ·have hz:szv (tzValue x) left=-1:=wj_ (by unfold tzValue;omega)
  rw [hz];unfold laws_szValue.f
  rw [e2,if_pos c2];try rfl
 ·skip;have hz:szv (tzValue x) left=(left-(x.f2.size:Int)):=by rw [szv_pos (by unfold tzValue;omega)];unfold tzValue;omega
  rw [hz];unfold laws_szValue.f
  rw [e2,if_neg c2];try rfl
theorem eq_Value (x:S80):laws_eqValue.f x.f0 x.f1 x.f2 x.f0 x.f1 x.f2=some true:=by
 unfold laws_eqValue.f
 rw [if_pos (by trivial)];rw [if_pos (by trivial)];rw [if_pos (by trivial)]
def cvTerm (x:S253):S86:=⟨x.f0,x.f1,x.f2,(cvValue x.f3)⟩
def tzTerm (x:S253):Nat:=x.f2.size+tzValue x.f3
def okTerm (x:S253):Prop:=okInt x.f0∧okInt x.f1∧x.f2.size≤9223372036854775807∧okValue x.f3
def tzTermS (xs:List S253):Nat:=xs.length+(xs.map tzTerm).sum
def okTermS (xs:List S253):Prop:=xs.length≤9223372036854775807∧∀x,x∈xs→okTerm x
theorem sz_Term (x:S253) (hok:okTerm x) (left:Int) (h0:0≤left) (h1:left≤1048576):laws_szTerm.f x.f0 x.f1 x.f2 x.f3.f0 x.f3.f1 x.f3.f2 left=some (szv (tzTerm x) left):=by
 obtain ⟨o0,o1,o2,o3⟩:=hok;have e2:wrap64 (left-(x.f2.size:Int))=left-(x.f2.size:Int):=wrap_left (by omega) (by omega) o2
 by_cases c2:left-(x.f2.size:Int)<0
 ·have hz:szv (tzTerm x) left=-1:=wj_ (by unfold tzTerm;omega)
  rw [hz];unfold laws_szTerm.f
  rw [e2,if_pos c2];try rfl
 ·skip;have s3:=sz_Value x.f3 o3 (left-(x.f2.size:Int)) (by omega) (by omega);by_cases c3:(left-(x.f2.size:Int))<((tzValue x.f3:Nat):Int)
  ·have hz:szv (tzTerm x) left=-1:=wj_ (by unfold tzTerm;omega)
   rw [hz];rw [wj_ c3] at s3;unfold laws_szTerm.f
   rw [e2,if_neg c2];rw [s3];rfl
  ·have d3:((tzValue x.f3:Nat):Int)≤(left-(x.f2.size:Int)):=by omega
   rw [szv_pos d3] at s3;have hz:szv (tzTerm x) left=((left-(x.f2.size:Int))-((tzValue x.f3:Nat):Int)):=by rw [szv_pos (by unfold tzTerm;omega)];unfold tzTerm;omega
   rw [hz];unfold laws_szTerm.f
   rw [e2,if_neg c2];rw [s3];simp only [Option.bind_some];rw [if_neg (by omega)];try rfl
theorem to_Term (x:S253):laws_toTerm.f x.f0 x.f1 x.f2 x.f3.f0 x.f3.f1 x.f3.f2=some (x.f0,x.f1,x.f2,x.f3.f0,x.f3.f1,x.f3.f2):=rfl
theorem eq_Term (x:S86):laws_eqTerm.f x.f0 x.f1 x.f2 x.f3.f0 x.f3.f1 x.f3.f2 x.f0 x.f1 x.f2 x.f3.f0 x.f3.f1 x.f3.f2=some true:=by
 unfold laws_eqTerm.f
 rw [if_pos (by trivial)];rw [if_pos (by trivial)];rw [if_pos (by trivial)];rw [eq_Value x.f3];simp only [Option.bind_some];rw [if_pos (by trivial)]
theorem sz_TermS (xs:List S253) (hok:okTermS xs) (left:Int) (h0:0≤left) (h1:left≤1048576):Ev (fun k=>yz_.f k xs left) (szv (tzTermS xs) left):=by
 obtain ⟨ol,oe⟩:=hok;have e:wrap64 (left-(xs.length:Int))=left-(xs.length:Int):=wrap_left h0 h1 ol
 by_cases c:left-(xs.length:Int)<0
 ·have hz:szv (tzTermS xs) left=-1:=wj_ (by unfold tzTermS;omega)
  rw [hz];refine ⟨0,fun k _=>?_⟩;dsimp only
  unfold yz_.f
  rw [e,if_pos c]
 ·have hz:szv (tzTermS xs) left=szv (xs.map tzTerm).sum (left-(xs.length:Int)):=by unfold szv tzTermS;split<;>split<;>omega
  rw [hz];have key:=sz_loop xs z253 tzTerm (fun k l i=>yz_.l0 k xs l i) ?_ ?_ (left-(xs.length:Int)) (by omega) (by omega)
  ·obtain ⟨K,hK⟩:=key;refine ⟨K,fun k hk=>?_⟩;dsimp only
   unfold yz_.f
   rw [e,if_neg c];exact hK k hk
  ·intro i l r hi g0 g1 hneg hpos;have hrd:xd_ xs (i:Int)=xs.getD i z253:=by simp [xd_]
   have s:=sz_Term (xs.getD i z253) (oe _ (getD_in _ hi)) l g0 g1;by_cases c2:l<(tzTerm (xs.getD i z253):Int)
   ·rw [hneg c2];rw [wj_ c2] at s;refine ⟨0+1,fun k hk=>?_⟩;dsimp only
    obtain ⟨m,rfl⟩:∃m,k=m+1:=⟨k-1,by omega⟩;simp only [yz_.l0];rw [if_pos (by omega),if_pos (by omega),hrd,s];rfl
   ·have d2:(tzTerm (xs.getD i z253):Int)≤l:=by omega
    obtain ⟨K2,h2⟩:=hpos d2;rw [szv_pos d2] at s;refine ⟨K2+1,fun k hk=>?_⟩;dsimp only
    obtain ⟨m,rfl⟩:∃m,k=m+1:=⟨k-1,by omega⟩;simp only [yz_.l0];rw [if_pos (by omega),if_pos (by omega),hrd,s];simp only [Option.bind_some];rw [if_neg (by omega),x7_ hi ol];exact h2 m (by omega)
  ·intro l;refine ⟨1,fun k hk=>?_⟩;dsimp only
   obtain ⟨m,rfl⟩:∃m,k=m+1:=⟨k-1,by omega⟩;simp only [yz_.l0];rw [if_neg (by omega)]
theorem to_TermS (xs:List S253) (hs:tzTermS xs≤1048576):Ev (fun k=>x3_.f k xs) (xs.map cvTerm):=by
 unfold tzTermS at hs
 have key:=to_loop xs z253 cvTerm (fun k out i=>x3_.l0 k xs out i) ?_ ?_ (List.replicate xs.length z86) List.length_replicate
 ·obtain ⟨K,hK⟩:=key;refine ⟨K,fun k hk=>?_⟩;dsimp only
  unfold x3_.f
  rw [if_pos (by omega),if_pos (by rw [Int.toNat_natCast];omega),Int.toNat_natCast];exact hK k hk
 ·intro i out r hi ho h;obtain ⟨K,hK⟩:=h;have hrd:xd_ xs (i:Int)=xs.getD i z253:=by simp [xd_]
  have h1:=to_Term (xs.getD i z253);refine ⟨K+1,fun k hk=>?_⟩;dsimp only
  obtain ⟨m,rfl⟩:∃m,k=m+1:=⟨k-1,by omega⟩;simp only [x3_.l0];rw [if_pos (by omega),if_pos (by omega),hrd,h1];simp only [Option.bind_some];rw [if_pos (by omega),x7_ hi (by omega),Int.toNat_natCast];exact hK m (by omega)
 ·intro out ho;refine ⟨1,fun k hk=>?_⟩;dsimp only
  obtain ⟨m,rfl⟩:∃m,k=m+1:=⟨k-1,by omega⟩;simp only [x3_.l0];rw [if_neg (by omega)]
theorem eq_TermS (xs:List S86) (hl:xs.length≤9223372036854775807):Ev (fun k=>ye_.f k xs xs) true:=by
 have key:=eq_loop xs.length (fun k i=>ye_.l0 k xs xs i) ?_ ?_
 ·obtain ⟨K,hK⟩:=key;refine ⟨K,fun k hk=>?_⟩;dsimp only
  unfold ye_.f
  rw [if_pos (by trivial)];exact hK k hk
 ·intro i hi h;obtain ⟨K,hK⟩:=h;have hrd:z6_ xs (i:Int)=xs.getD i z86:=by simp [z6_]
  have h1:=eq_Term (xs.getD i z86);refine ⟨K+1,fun k hk=>?_⟩;dsimp only
  obtain ⟨m,rfl⟩:∃m,k=m+1:=⟨k-1,by omega⟩;simp only [ye_.l0];rw [if_pos (by omega),if_pos (by omega),if_pos (by omega),hrd,h1];simp only [Option.bind_some];rw [if_pos (by trivial),x7_ hi hl];exact hK m (by omega)
 ·refine ⟨1,fun k hk=>?_⟩;dsimp only
  obtain ⟨m,rfl⟩:∃m,k=m+1:=⟨k-1,by omega⟩;simp only [ye_.l0];rw [if_neg (by omega)]
def cvPattern (x:S181):S42:=⟨x.f0,x.f1,(x.f2.map cvTerm)⟩
def wm_ (x:S181):Nat:=x.f1.size+tzTermS x.f2
def okPattern (x:S181):Prop:=x.f1.size≤9223372036854775807∧okTermS x.f2
def w3_ (xs:List S181):Nat:=xs.length+(xs.map wm_).sum
def okPatternS (xs:List S181):Prop:=xs.length≤9223372036854775807∧∀x,x∈xs→okPattern x
theorem sz_Pattern (x:S181) (hok:okPattern x) (left:Int) (h0:0≤left) (h1:left≤1048576):Ev (fun k=>xu_.f k x.f0 x.f1 x.f2 left) (szv (wm_ x) left):=by
 obtain ⟨o1,o2⟩:=hok;have e1:wrap64 (left-(x.f1.size:Int))=left-(x.f1.size:Int):=wrap_left (by omega) (by omega) o1
 by_cases c1:left-(x.f1.size:Int)<0
 ·have hz:szv (wm_ x) left=-1:=wj_ (by unfold wm_;omega)
  rw [hz];refine ⟨0,fun k hk=>?_⟩;dsimp only
  unfold xu_.f
  rw [e1,if_pos c1];try rfl
 ·skip;obtain ⟨K2,s2⟩:=sz_TermS x.f2 o2 (left-(x.f1.size:Int)) (by omega) (by omega);by_cases c2:(left-(x.f1.size:Int))<((tzTermS x.f2:Nat):Int)
  ·have hz:szv (wm_ x) left=-1:=wj_ (by unfold wm_;omega)
   rw [hz];simp only [wj_ c2] at s2;refine ⟨K2,fun k hk=>?_⟩;dsimp only
   unfold xu_.f
   rw [e1,if_neg c1];rw [s2 k (by omega)];rfl
  ·have d2:((tzTermS x.f2:Nat):Int)≤(left-(x.f1.size:Int)):=by omega
   simp only [szv_pos d2] at s2;have hz:szv (wm_ x) left=((left-(x.f1.size:Int))-((tzTermS x.f2:Nat):Int)):=by rw [szv_pos (by unfold wm_;omega)];unfold wm_;omega
   rw [hz];refine ⟨K2,fun k hk=>?_⟩;dsimp only
   unfold xu_.f
   rw [e1,if_neg c1];rw [s2 k (by omega)];simp only [Option.bind_some];rw [if_neg (by omega)];try rfl
theorem to_Pattern (x:S181) (hs:wm_ x≤1048576):Ev (fun k=>wd_.f k x.f0 x.f1 x.f2) (x.f0,x.f1,(x.f2.map cvTerm)):=by
 unfold wm_ at hs
 obtain ⟨K2,h2⟩:=to_TermS x.f2 (by omega);dsimp only at h2
 refine ⟨K2,fun k hk=>?_⟩;dsimp only
 unfold wd_.f
 rw [h2 k (by omega)];simp only [Option.bind_some];try rfl
def lePattern (x:S42):Prop:=x.f2.length≤9223372036854775807
theorem eq_Pattern (x:S42) (hl:lePattern x):Ev (fun k=>w8_.f k x.f0 x.f1 x.f2 x.f0 x.f1 x.f2) true:=by
 have o2:=hl;unfold lePattern at o2
 obtain ⟨K2,h2⟩:=eq_TermS x.f2 o2;dsimp only at h2
 refine ⟨K2,fun k hk=>?_⟩;dsimp only
 unfold w8_.f
 rw [if_neg (by simp)];rw [if_pos (by trivial)];rw [h2 k (by omega)];simp only [Option.bind_some];rw [if_pos (by trivial)]
theorem sz_PatternS (xs:List S181) (hok:okPatternS xs) (left:Int) (h0:0≤left) (h1:left≤1048576):Ev (fun k=>ya_.f k xs left) (szv (w3_ xs) left):=by
 obtain ⟨ol,oe⟩:=hok;have e:wrap64 (left-(xs.length:Int))=left-(xs.length:Int):=wrap_left h0 h1 ol
 by_cases c:left-(xs.length:Int)<0
 ·have hz:szv (w3_ xs) left=-1:=wj_ (by unfold w3_;omega)
  rw [hz];refine ⟨0,fun k _=>?_⟩;dsimp only
  unfold ya_.f
  rw [e,if_pos c]
 ·have hz:szv (w3_ xs) left=szv (xs.map wm_).sum (left-(xs.length:Int)):=by unfold szv w3_;split<;>split<;>omega
  rw [hz];have key:=sz_loop xs z181 wm_ (fun k l i=>ya_.l0 k xs l i) ?_ ?_ (left-(xs.length:Int)) (by omega) (by omega)
  ·obtain ⟨K,hK⟩:=key;refine ⟨K,fun k hk=>?_⟩;dsimp only
   unfold ya_.f
   rw [e,if_neg c];exact hK k hk
  ·intro i l r hi g0 g1 hneg hpos;have hrd:wg_ xs (i:Int)=xs.getD i z181:=by simp [wg_]
   obtain ⟨K1,s⟩:=sz_Pattern (xs.getD i z181) (oe _ (getD_in _ hi)) l g0 g1;by_cases c2:l<(wm_ (xs.getD i z181):Int)
   ·rw [hneg c2];simp only [wj_ c2] at s;refine ⟨K1+1,fun k hk=>?_⟩;dsimp only
    obtain ⟨m,rfl⟩:∃m,k=m+1:=⟨k-1,by omega⟩;simp only [ya_.l0];rw [if_pos (by omega),if_pos (by omega),hrd,s m (by omega)];rfl
   ·have d2:(wm_ (xs.getD i z181):Int)≤l:=by omega
    obtain ⟨K2,h2⟩:=hpos d2;simp only [szv_pos d2] at s;refine ⟨K1+K2+1,fun k hk=>?_⟩;dsimp only
    obtain ⟨m,rfl⟩:∃m,k=m+1:=⟨k-1,by omega⟩;simp only [ya_.l0];rw [if_pos (by omega),if_pos (by omega),hrd,s m (by omega)];simp only [Option.bind_some];rw [if_neg (by omega),x7_ hi ol];exact h2 m (by omega)
  ·intro l;refine ⟨1,fun k hk=>?_⟩;dsimp only
   obtain ⟨m,rfl⟩:∃m,k=m+1:=⟨k-1,by omega⟩;simp only [ya_.l0];rw [if_neg (by omega)]
theorem to_PatternS (xs:List S181) (hs:w3_ xs≤1048576):Ev (fun k=>yc_.f k xs) (xs.map cvPattern):=by
 unfold w3_ at hs
 have key:=to_loop xs z181 cvPattern (fun k out i=>yc_.l0 k xs out i) ?_ ?_ (List.replicate xs.length z42) List.length_replicate
 ·obtain ⟨K,hK⟩:=key;refine ⟨K,fun k hk=>?_⟩;dsimp only
  unfold yc_.f
  rw [if_pos (by omega),if_pos (by rw [Int.toNat_natCast];omega),Int.toNat_natCast];exact hK k hk
 ·intro i out r hi ho h;obtain ⟨K,hK⟩:=h;have hrd:wg_ xs (i:Int)=xs.getD i z181:=by simp [wg_]
  have hm:=sum_le_of_mem wm_ xs _ (getD_in z181 hi);obtain ⟨K1,h1⟩:=to_Pattern (xs.getD i z181) (by omega);dsimp only at h1
  refine ⟨K1+K+1,fun k hk=>?_⟩;dsimp only
  obtain ⟨m,rfl⟩:∃m,k=m+1:=⟨k-1,by omega⟩;simp only [yc_.l0];rw [if_pos (by omega),if_pos (by omega),hrd,h1 m (by omega)];simp only [Option.bind_some];rw [if_pos (by omega),x7_ hi (by omega),Int.toNat_natCast];exact hK m (by omega)
 ·intro out ho;refine ⟨1,fun k hk=>?_⟩;dsimp only
  obtain ⟨m,rfl⟩:∃m,k=m+1:=⟨k-1,by omega⟩;simp only [yc_.l0];rw [if_neg (by omega)]
def lePatternS (xs:List S42):Prop:=xs.length≤9223372036854775807∧∀x,x∈xs→lePattern x
theorem eq_PatternS (xs:List S42) (hl:lePatternS xs):Ev (fun k=>zv_.f k xs xs) true:=by
 obtain ⟨hl,he⟩:=hl;have key:=eq_loop xs.length (fun k i=>zv_.l0 k xs xs i) ?_ ?_
 ·obtain ⟨K,hK⟩:=key;refine ⟨K,fun k hk=>?_⟩;dsimp only
  unfold zv_.f
  rw [if_pos (by trivial)];exact hK k hk
 ·intro i hi h;obtain ⟨K,hK⟩:=h;have hrd:zq_ xs (i:Int)=xs.getD i z42:=by simp [zq_]
  obtain ⟨K1,h1⟩:=eq_Pattern (xs.getD i z42) (he _ (getD_in _ hi));dsimp only at h1
  refine ⟨K1+K+1,fun k hk=>?_⟩;dsimp only
  obtain ⟨m,rfl⟩:∃m,k=m+1:=⟨k-1,by omega⟩;simp only [zv_.l0];rw [if_pos (by omega),if_pos (by omega),if_pos (by omega),hrd,h1 m (by omega)];simp only [Option.bind_some];rw [if_pos (by trivial),x7_ hi hl];exact hK m (by omega)
 ·refine ⟨1,fun k hk=>?_⟩;dsimp only
  obtain ⟨m,rfl⟩:∃m,k=m+1:=⟨k-1,by omega⟩;simp only [zv_.l0];rw [if_neg (by omega)]
theorem le_cvPattern (x:S181) (hs:wm_ x≤1048576):lePattern (cvPattern x):=by
 unfold wm_ at hs
 exact by show (x.f2.map cvTerm).length≤_;rw [List.length_map];unfold tzTermS at hs;omega
theorem le_cvPatternS (xs:List S181) (hs:w3_ xs≤1048576):lePatternS (xs.map cvPattern):=by
 unfold w3_ at hs
 refine ⟨by rw [List.length_map];omega,fun y hy=>?_⟩;obtain ⟨x,hx,rfl⟩:=List.mem_map.1 hy;have:=sum_le_of_mem wm_ xs x hx
 exact le_cvPattern x (by omega)
def cvExpr (x:S185):S161:=⟨x.f0,x.f1,x.f2,(cvValue x.f3),x.f4,x.f5⟩
def tzExpr (x:S185):Nat:=x.f2.size+tzValue x.f3
def okExpr (x:S185):Prop:=okInt x.f0∧okByte x.f1∧x.f2.size≤9223372036854775807∧okValue x.f3∧okInt x.f4∧okInt x.f5
def tzExprS (xs:List S185):Nat:=xs.length+(xs.map tzExpr).sum
def okExprS (xs:List S185):Prop:=xs.length≤9223372036854775807∧∀x,x∈xs→okExpr x
theorem sz_Expr (x:S185) (hok:okExpr x) (left:Int) (h0:0≤left) (h1:left≤1048576):laws_szExpr.f x.f0 x.f1 x.f2 x.f3.f0 x.f3.f1 x.f3.f2 x.f4 x.f5 left=some (szv (tzExpr x) left):=by
 obtain ⟨o0,o1,o2,o3,o4,o5⟩:=hok;have e2:wrap64 (left-(x.f2.size:Int))=left-(x.f2.size:Int):=wrap_left (by omega) (by omega) o2
 by_cases c2:left-(x.f2.size:Int)<0
 ·have hz:szv (tzExpr x) left=-1:=wj_ (by unfold tzExpr;omega)
  rw [hz];unfold laws_szExpr.f
  rw [e2,if_pos c2];try rfl
 ·skip;have s3:=sz_Value x.f3 o3 (left-(x.f2.size:Int)) (by omega) (by omega);by_cases c3:(left-(x.f2.size:Int))<((tzValue x.f3:Nat):Int)
  ·have hz:szv (tzExpr x) left=-1:=wj_ (by unfold tzExpr;omega)
   rw [hz];rw [wj_ c3] at s3;unfold laws_szExpr.f
   rw [e2,if_neg c2];rw [s3];rfl
  ·have d3:((tzValue x.f3:Nat):Int)≤(left-(x.f2.size:Int)):=by omega
   rw [szv_pos d3] at s3;have hz:szv (tzExpr x) left=((left-(x.f2.size:Int))-((tzValue x.f3:Nat):Int)):=by rw [szv_pos (by unfold tzExpr;omega)];unfold tzExpr;omega
   rw [hz];unfold laws_szExpr.f
   rw [e2,if_neg c2];rw [s3];simp only [Option.bind_some];rw [if_neg (by omega)];try rfl
theorem to_Expr (x:S185):laws_toExpr.f x.f0 x.f1 x.f2 x.f3.f0 x.f3.f1 x.f3.f2 x.f4 x.f5=some (x.f0,x.f1,x.f2,x.f3.f0,x.f3.f1,x.f3.f2,x.f4,x.f5):=rfl
theorem eq_Expr (x:S161):laws_eqExpr.f x.f0 x.f1 x.f2 x.f3.f0 x.f3.f1 x.f3.f2 x.f4 x.f5 x.f0 x.f1 x.f2 x.f3.f0 x.f3.f1 x.f3.f2 x.f4 x.f5=some true:=by
 unfold laws_eqExpr.f
 rw [if_pos (by trivial)];rw [if_pos (by trivial)];rw [if_pos (by trivial)];rw [eq_Value x.f3];simp only [Option.bind_some];rw [if_pos (by trivial)];rw [if_pos (by trivial)];rw [if_pos (by trivial)]
theorem sz_ExprS (xs:List S185) (hok:okExprS xs) (left:Int) (h0:0≤left) (h1:left≤1048576):Ev (fun k=>yy_.f k xs left) (szv (tzExprS xs) left):=by
 obtain ⟨ol,oe⟩:=hok;have e:wrap64 (left-(xs.length:Int))=left-(xs.length:Int):=wrap_left h0 h1 ol
 by_cases c:left-(xs.length:Int)<0
 ·have hz:szv (tzExprS xs) left=-1:=wj_ (by unfold tzExprS;omega)
  rw [hz];refine ⟨0,fun k _=>?_⟩;dsimp only
  unfold yy_.f
  rw [e,if_pos c]
 ·have hz:szv (tzExprS xs) left=szv (xs.map tzExpr).sum (left-(xs.length:Int)):=by unfold szv tzExprS;split<;>split<;>omega
  rw [hz];have key:=sz_loop xs z185 tzExpr (fun k l i=>yy_.l0 k xs l i) ?_ ?_ (left-(xs.length:Int)) (by omega) (by omega)
  ·obtain ⟨K,hK⟩:=key;refine ⟨K,fun k hk=>?_⟩;dsimp only
   unfold yy_.f
   rw [e,if_neg c];exact hK k hk
  ·intro i l r hi g0 g1 hneg hpos;have hrd:yo_ xs (i:Int)=xs.getD i z185:=by simp [yo_]
   have s:=sz_Expr (xs.getD i z185) (oe _ (getD_in _ hi)) l g0 g1;by_cases c2:l<(tzExpr (xs.getD i z185):Int)
   ·rw [hneg c2];rw [wj_ c2] at s;refine ⟨0+1,fun k hk=>?_⟩;dsimp only
    obtain ⟨m,rfl⟩:∃m,k=m+1:=⟨k-1,by omega⟩;simp only [yy_.l0];rw [if_pos (by omega),if_pos (by omega),hrd,s];rfl
   ·have d2:(tzExpr (xs.getD i z185):Int)≤l:=by omega
    obtain ⟨K2,h2⟩:=hpos d2;rw [szv_pos d2] at s;refine ⟨K2+1,fun k hk=>?_⟩;dsimp only
    obtain ⟨m,rfl⟩:∃m,k=m+1:=⟨k-1,by omega⟩;simp only [yy_.l0];rw [if_pos (by omega),if_pos (by omega),hrd,s];simp only [Option.bind_some];rw [if_neg (by omega),x7_ hi ol];exact h2 m (by omega)
  ·intro l;refine ⟨1,fun k hk=>?_⟩;dsimp only
   obtain ⟨m,rfl⟩:∃m,k=m+1:=⟨k-1,by omega⟩;simp only [yy_.l0];rw [if_neg (by omega)]
theorem to_ExprS (xs:List S185) (hs:tzExprS xs≤1048576):Ev (fun k=>x5_.f k xs) (xs.map cvExpr):=by
 unfold tzExprS at hs
 have key:=to_loop xs z185 cvExpr (fun k out i=>x5_.l0 k xs out i) ?_ ?_ (List.replicate xs.length z161) List.length_replicate
 ·obtain ⟨K,hK⟩:=key;refine ⟨K,fun k hk=>?_⟩;dsimp only
  unfold x5_.f
  rw [if_pos (by omega),if_pos (by rw [Int.toNat_natCast];omega),Int.toNat_natCast];exact hK k hk
 ·intro i out r hi ho h;obtain ⟨K,hK⟩:=h;have hrd:yo_ xs (i:Int)=xs.getD i z185:=by simp [yo_]
  have h1:=to_Expr (xs.getD i z185);refine ⟨K+1,fun k hk=>?_⟩;dsimp only
  obtain ⟨m,rfl⟩:∃m,k=m+1:=⟨k-1,by omega⟩;simp only [x5_.l0];rw [if_pos (by omega),if_pos (by omega),hrd,h1];simp only [Option.bind_some];rw [if_pos (by omega),x7_ hi (by omega),Int.toNat_natCast];exact hK m (by omega)
 ·intro out ho;refine ⟨1,fun k hk=>?_⟩;dsimp only
  obtain ⟨m,rfl⟩:∃m,k=m+1:=⟨k-1,by omega⟩;simp only [x5_.l0];rw [if_neg (by omega)]
theorem eq_ExprS (xs:List S161) (hl:xs.length≤9223372036854775807):Ev (fun k=>yd_.f k xs xs) true:=by
 have key:=eq_loop xs.length (fun k i=>yd_.l0 k xs xs i) ?_ ?_
 ·obtain ⟨K,hK⟩:=key;refine ⟨K,fun k hk=>?_⟩;dsimp only
  unfold yd_.f
  rw [if_pos (by trivial)];exact hK k hk
 ·intro i hi h;obtain ⟨K,hK⟩:=h;have hrd:z2_ xs (i:Int)=xs.getD i z161:=by simp [z2_]
  have h1:=eq_Expr (xs.getD i z161);refine ⟨K+1,fun k hk=>?_⟩;dsimp only
  obtain ⟨m,rfl⟩:∃m,k=m+1:=⟨k-1,by omega⟩;simp only [yd_.l0];rw [if_pos (by omega),if_pos (by omega),if_pos (by omega),hrd,h1];simp only [Option.bind_some];rw [if_pos (by trivial),x7_ hi hl];exact hK m (by omega)
 ·refine ⟨1,fun k hk=>?_⟩;dsimp only
  obtain ⟨m,rfl⟩:∃m,k=m+1:=⟨k-1,by omega⟩;simp only [yd_.l0];rw [if_neg (by omega)]
def cvAction (x:S187):S98:=⟨x.f0,x.f1,x.f2,x.f3⟩
def tzAction (x:S187):Nat:=x.f2.size+x.f3.length
def okAction (x:S187):Prop:=okInt x.f0∧okInt x.f1∧x.f2.size≤9223372036854775807∧okIntS x.f3
def tzActionS (xs:List S187):Nat:=xs.length+(xs.map tzAction).sum
def okActionS (xs:List S187):Prop:=xs.length≤9223372036854775807∧∀x,x∈xs→okAction x
theorem sz_Action (x:S187) (hok:okAction x) (left:Int) (h0:0≤left) (h1:left≤1048576):laws_szAction.f x.f0 x.f1 x.f2 x.f3 left=some (szv (tzAction x) left):=by
 obtain ⟨o0,o1,o2,o3⟩:=hok;have e2:wrap64 (left-(x.f2.size:Int))=left-(x.f2.size:Int):=wrap_left (by omega) (by omega) o2
 by_cases c2:left-(x.f2.size:Int)<0
 ·have hz:szv (tzAction x) left=-1:=wj_ (by unfold tzAction;omega)
  rw [hz];unfold laws_szAction.f
  rw [e2,if_pos c2];try rfl
 ·skip;have s3:laws_szIntS.f x.f3 (left-(x.f2.size:Int))=some (szv (x.f3.length) (left-(x.f2.size:Int))):=sz_IntS x.f3 o3.1 (left-(x.f2.size:Int)) (by omega) (by omega)
  by_cases c3:(left-(x.f2.size:Int))<((x.f3.length:Nat):Int)
  ·have hz:szv (tzAction x) left=-1:=wj_ (by unfold tzAction;omega)
   rw [hz];rw [wj_ c3] at s3;unfold laws_szAction.f
   rw [e2,if_neg c2];rw [s3];rfl
  ·have d3:((x.f3.length:Nat):Int)≤(left-(x.f2.size:Int)):=by omega
   rw [szv_pos d3] at s3;have hz:szv (tzAction x) left=((left-(x.f2.size:Int))-((x.f3.length:Nat):Int)):=by rw [szv_pos (by unfold tzAction;omega)];unfold tzAction;omega
   rw [hz];unfold laws_szAction.f
   rw [e2,if_neg c2];rw [s3];simp only [Option.bind_some];rw [if_neg (by omega)];try rfl
theorem to_Action (x:S187) (hs:tzAction x≤1048576):Ev (fun k=>wn_.f k x.f0 x.f1 x.f2 x.f3) (x.f0,x.f1,x.f2,x.f3):=by
 unfold tzAction at hs
 obtain ⟨K3,h3⟩:=to_IntS x.f3 (by omega);dsimp only at h3
 refine ⟨K3,fun k hk=>?_⟩;dsimp only
 unfold wn_.f
 rw [h3 k (by omega)];simp only [Option.bind_some];try rfl
def leAction (x:S98):Prop:=x.f3.length≤9223372036854775807
theorem eq_Action (x:S98) (hl:leAction x):Ev (fun k=>we_.f k x.f0 x.f1 x.f2 x.f3 x.f0 x.f1 x.f2 x.f3) true:=by
 have o3:=hl;unfold leAction at o3
 obtain ⟨K3,h3⟩:=eq_IntS x.f3 o3;dsimp only at h3
 refine ⟨K3,fun k hk=>?_⟩;dsimp only
 unfold we_.f
 rw [if_pos (by trivial)];rw [if_pos (by trivial)];rw [if_pos (by trivial)];rw [h3 k (by omega)];simp only [Option.bind_some];rw [if_pos (by trivial)]
theorem sz_ActionS (xs:List S187) (hok:okActionS xs) (left:Int) (h0:0≤left) (h1:left≤1048576):Ev (fun k=>yf_.f k xs left) (szv (tzActionS xs) left):=by
 obtain ⟨ol,oe⟩:=hok;have e:wrap64 (left-(xs.length:Int))=left-(xs.length:Int):=wrap_left h0 h1 ol
 by_cases c:left-(xs.length:Int)<0
 ·have hz:szv (tzActionS xs) left=-1:=wj_ (by unfold tzActionS;omega)
  rw [hz];refine ⟨0,fun k _=>?_⟩;dsimp only
  unfold yf_.f
  rw [e,if_pos c]
 ·have hz:szv (tzActionS xs) left=szv (xs.map tzAction).sum (left-(xs.length:Int)):=by unfold szv tzActionS;split<;>split<;>omega
  rw [hz];have key:=sz_loop xs z187 tzAction (fun k l i=>yf_.l0 k xs l i) ?_ ?_ (left-(xs.length:Int)) (by omega) (by omega)
  ·obtain ⟨K,hK⟩:=key;refine ⟨K,fun k hk=>?_⟩;dsimp only
   unfold yf_.f
   rw [e,if_neg c];exact hK k hk
  ·intro i l r hi g0 g1 hneg hpos;have hrd:xw_ xs (i:Int)=xs.getD i z187:=by simp [xw_]
   have s:=sz_Action (xs.getD i z187) (oe _ (getD_in _ hi)) l g0 g1;by_cases c2:l<(tzAction (xs.getD i z187):Int)
   ·rw [hneg c2];rw [wj_ c2] at s;refine ⟨0+1,fun k hk=>?_⟩;dsimp only
    obtain ⟨m,rfl⟩:∃m,k=m+1:=⟨k-1,by omega⟩;simp only [yf_.l0];rw [if_pos (by omega),if_pos (by omega),hrd,s];rfl
   ·have d2:(tzAction (xs.getD i z187):Int)≤l:=by omega
    obtain ⟨K2,h2⟩:=hpos d2;rw [szv_pos d2] at s;refine ⟨K2+1,fun k hk=>?_⟩;dsimp only
    obtain ⟨m,rfl⟩:∃m,k=m+1:=⟨k-1,by omega⟩;simp only [yf_.l0];rw [if_pos (by omega),if_pos (by omega),hrd,s];simp only [Option.bind_some];rw [if_neg (by omega),x7_ hi ol];exact h2 m (by omega)
  ·intro l;refine ⟨1,fun k hk=>?_⟩;dsimp only
   obtain ⟨m,rfl⟩:∃m,k=m+1:=⟨k-1,by omega⟩;simp only [yf_.l0];rw [if_neg (by omega)]
theorem to_ActionS (xs:List S187) (hs:tzActionS xs≤1048576):Ev (fun k=>yj_.f k xs) (xs.map cvAction):=by
 unfold tzActionS at hs
 have key:=to_loop xs z187 cvAction (fun k out i=>yj_.l0 k xs out i) ?_ ?_ (List.replicate xs.length z98) List.length_replicate
 ·obtain ⟨K,hK⟩:=key;refine ⟨K,fun k hk=>?_⟩;dsimp only
  unfold yj_.f
  rw [if_pos (by omega),if_pos (by rw [Int.toNat_natCast];omega),Int.toNat_natCast];exact hK k hk
 ·intro i out r hi ho h;obtain ⟨K,hK⟩:=h;have hrd:xw_ xs (i:Int)=xs.getD i z187:=by simp [xw_]
  have hm:=sum_le_of_mem tzAction xs _ (getD_in z187 hi);obtain ⟨K1,h1⟩:=to_Action (xs.getD i z187) (by omega);dsimp only at h1
  refine ⟨K1+K+1,fun k hk=>?_⟩;dsimp only
  obtain ⟨m,rfl⟩:∃m,k=m+1:=⟨k-1,by omega⟩;simp only [yj_.l0];rw [if_pos (by omega),if_pos (by omega),hrd,h1 m (by omega)];simp only [Option.bind_some];rw [if_pos (by omega),x7_ hi (by omega),Int.toNat_natCast];exact hK m (by omega)
 ·intro out ho;refine ⟨1,fun k hk=>?_⟩;dsimp only
  obtain ⟨m,rfl⟩:∃m,k=m+1:=⟨k-1,by omega⟩;simp only [yj_.l0];rw [if_neg (by omega)]
def leActionS (xs:List S98):Prop:=xs.length≤9223372036854775807∧∀x,x∈xs→leAction x
theorem eq_ActionS (xs:List S98) (hl:leActionS xs):Ev (fun k=>zz_.f k xs xs) true:=by
 obtain ⟨hl,he⟩:=hl;have key:=eq_loop xs.length (fun k i=>zz_.l0 k xs xs i) ?_ ?_
 ·obtain ⟨K,hK⟩:=key;refine ⟨K,fun k hk=>?_⟩;dsimp only
  unfold zz_.f
  rw [if_pos (by trivial)];exact hK k hk
 ·intro i hi h;obtain ⟨K,hK⟩:=h;have hrd:y3_ xs (i:Int)=xs.getD i z98:=by simp [y3_]
  obtain ⟨K1,h1⟩:=eq_Action (xs.getD i z98) (he _ (getD_in _ hi));dsimp only at h1
  refine ⟨K1+K+1,fun k hk=>?_⟩;dsimp only
  obtain ⟨m,rfl⟩:∃m,k=m+1:=⟨k-1,by omega⟩;simp only [zz_.l0];rw [if_pos (by omega),if_pos (by omega),if_pos (by omega),hrd,h1 m (by omega)];simp only [Option.bind_some];rw [if_pos (by trivial),x7_ hi hl];exact hK m (by omega)
 ·refine ⟨1,fun k hk=>?_⟩;dsimp only
  obtain ⟨m,rfl⟩:∃m,k=m+1:=⟨k-1,by omega⟩;simp only [zz_.l0];rw [if_neg (by omega)]
theorem le_cvAction (x:S187) (hs:tzAction x≤1048576):leAction (cvAction x):=by
 unfold tzAction at hs
 exact by show x.f3.length≤_;omega
theorem le_cvActionS (xs:List S187) (hs:tzActionS xs≤1048576):leActionS (xs.map cvAction):=by
 unfold tzActionS at hs
 refine ⟨by rw [List.length_map];omega,fun y hy=>?_⟩;obtain ⟨x,hx,rfl⟩:=List.mem_map.1 hy;have:=sum_le_of_mem tzAction xs x hx
 exact le_cvAction x (by omega)
def cvRule (x:S94):S39:=⟨x.f0,x.f1,(x.f2.map cvPattern),(x.f3.map cvExpr),(x.f4.map cvAction)⟩
def tzRule (x:S94):Nat:=x.f0.size+w3_ x.f2+tzExprS x.f3+tzActionS x.f4
def okRule (x:S94):Prop:=x.f0.size≤9223372036854775807∧okInt x.f1∧okPatternS x.f2∧okExprS x.f3∧okActionS x.f4
def tzRuleS (xs:List S94):Nat:=xs.length+(xs.map tzRule).sum
def okRuleS (xs:List S94):Prop:=xs.length≤9223372036854775807∧∀x,x∈xs→okRule x
theorem sz_Rule (x:S94) (hok:okRule x) (left:Int) (h0:0≤left) (h1:left≤1048576):Ev (fun k=>w9_.f k x.f0 x.f1 x.f2 x.f3 x.f4 left) (szv (tzRule x) left):=by
 obtain ⟨o0,o1,o2,o3,o4⟩:=hok;have e0:wrap64 (left-(x.f0.size:Int))=left-(x.f0.size:Int):=wrap_left (by omega) (by omega) o0
 by_cases c0:left-(x.f0.size:Int)<0
 ·have hz:szv (tzRule x) left=-1:=wj_ (by unfold tzRule;omega)
  rw [hz];refine ⟨0,fun k hk=>?_⟩;dsimp only
  unfold w9_.f
  rw [e0,if_pos c0];try rfl
 ·skip;obtain ⟨K2,s2⟩:=sz_PatternS x.f2 o2 (left-(x.f0.size:Int)) (by omega) (by omega);by_cases c2:(left-(x.f0.size:Int))<((w3_ x.f2:Nat):Int)
  ·have hz:szv (tzRule x) left=-1:=wj_ (by unfold tzRule;omega)
   rw [hz];simp only [wj_ c2] at s2;refine ⟨K2,fun k hk=>?_⟩;dsimp only
   unfold w9_.f
   rw [e0,if_neg c0];rw [s2 k (by omega)];rfl
  ·have d2:((w3_ x.f2:Nat):Int)≤(left-(x.f0.size:Int)):=by omega
   simp only [szv_pos d2] at s2;obtain ⟨K3,s3⟩:=sz_ExprS x.f3 o3 ((left-(x.f0.size:Int))-((w3_ x.f2:Nat):Int)) (by omega) (by omega);by_cases c3:((left-(x.f0.size:Int))-((w3_ x.f2:Nat):Int))<((tzExprS x.f3:Nat):Int)
   ·have hz:szv (tzRule x) left=-1:=wj_ (by unfold tzRule;omega)
    rw [hz];simp only [wj_ c3] at s3;refine ⟨K2+K3,fun k hk=>?_⟩;dsimp only
    unfold w9_.f
    rw [e0,if_neg c0];rw [s2 k (by omega)];simp only [Option.bind_some];rw [if_neg (by omega)];rw [s3 k (by omega)];rfl
   ·have d3:((tzExprS x.f3:Nat):Int)≤((left-(x.f0.size:Int))-((w3_ x.f2:Nat):Int)):=by omega
    simp only [szv_pos d3] at s3;obtain ⟨K4,s4⟩:=sz_ActionS x.f4 o4 (((left-(x.f0.size:Int))-((w3_ x.f2:Nat):Int))-((tzExprS x.f3:Nat):Int)) (by omega) (by omega);by_cases c4:(((left-(x.f0.size:Int))-((w3_ x.f2:Nat):Int))-((tzExprS x.f3:Nat):Int))<((tzActionS x.f4:Nat):Int)
    ·have hz:szv (tzRule x) left=-1:=wj_ (by unfold tzRule;omega)
     rw [hz];simp only [wj_ c4] at s4;refine ⟨K2+K3+K4,fun k hk=>?_⟩;dsimp only
     unfold w9_.f
     rw [e0,if_neg c0];rw [s2 k (by omega)];simp only [Option.bind_some];rw [if_neg (by omega)];rw [s3 k (by omega)];simp only [Option.bind_some];rw [if_neg (by omega)];rw [s4 k (by omega)];rfl
    ·have d4:((tzActionS x.f4:Nat):Int)≤(((left-(x.f0.size:Int))-((w3_ x.f2:Nat):Int))-((tzExprS x.f3:Nat):Int)):=by omega
     simp only [szv_pos d4] at s4;have hz:szv (tzRule x) left=((((left-(x.f0.size:Int))-((w3_ x.f2:Nat):Int))-((tzExprS x.f3:Nat):Int))-((tzActionS x.f4:Nat):Int)):=by rw [szv_pos (by unfold tzRule;omega)];unfold tzRule;omega
     rw [hz];refine ⟨K2+K3+K4,fun k hk=>?_⟩;dsimp only
     unfold w9_.f
     rw [e0,if_neg c0];rw [s2 k (by omega)];simp only [Option.bind_some];rw [if_neg (by omega)];rw [s3 k (by omega)];simp only [Option.bind_some];rw [if_neg (by omega)];rw [s4 k (by omega)];simp only [Option.bind_some];rw [if_neg (by omega)];try rfl
theorem to_Rule (x:S94) (hs:tzRule x≤1048576):Ev (fun k=>laws_toRule.f k x.f0 x.f1 x.f2 x.f3 x.f4) (x.f0,x.f1,(x.f2.map cvPattern),(x.f3.map cvExpr),(x.f4.map cvAction)):=by
 unfold tzRule at hs
 obtain ⟨K2,h2⟩:=to_PatternS x.f2 (by omega);dsimp only at h2
 obtain ⟨K3,h3⟩:=to_ExprS x.f3 (by omega);dsimp only at h3
 obtain ⟨K4,h4⟩:=to_ActionS x.f4 (by omega);dsimp only at h4
 refine ⟨K2+K3+K4,fun k hk=>?_⟩;dsimp only
 unfold laws_toRule.f
 rw [h2 k (by omega)];simp only [Option.bind_some];rw [h3 k (by omega)];simp only [Option.bind_some];rw [h4 k (by omega)];simp only [Option.bind_some];try rfl
def leRule (x:S39):Prop:=lePatternS x.f2∧x.f3.length≤9223372036854775807∧leActionS x.f4
theorem eq_Rule (x:S39) (hl:leRule x):Ev (fun k=>laws_eqRule.f k x.f0 x.f1 x.f2 x.f3 x.f4 x.f0 x.f1 x.f2 x.f3 x.f4) true:=by
 obtain ⟨o2,o3,o4⟩:=hl;obtain ⟨K2,h2⟩:=eq_PatternS x.f2 o2;dsimp only at h2
 obtain ⟨K3,h3⟩:=eq_ExprS x.f3 o3;dsimp only at h3
 obtain ⟨K4,h4⟩:=eq_ActionS x.f4 o4;dsimp only at h4
 refine ⟨K2+K3+K4,fun k hk=>?_⟩;dsimp only
 unfold laws_eqRule.f
 rw [if_pos (by trivial)];rw [if_pos (by trivial)];rw [h2 k (by omega)];simp only [Option.bind_some];rw [if_pos (by trivial)];rw [h3 k (by omega)];simp only [Option.bind_some];rw [if_pos (by trivial)];rw [h4 k (by omega)];simp only [Option.bind_some];rw [if_pos (by trivial)]
theorem sz_RuleS (xs:List S94) (hok:okRuleS xs) (left:Int) (h0:0≤left) (h1:left≤1048576):Ev (fun k=>x0_.f k xs left) (szv (tzRuleS xs) left):=by
 obtain ⟨ol,oe⟩:=hok;have e:wrap64 (left-(xs.length:Int))=left-(xs.length:Int):=wrap_left h0 h1 ol
 by_cases c:left-(xs.length:Int)<0
 ·have hz:szv (tzRuleS xs) left=-1:=wj_ (by unfold tzRuleS;omega)
  rw [hz];refine ⟨0,fun k _=>?_⟩;dsimp only
  unfold x0_.f
  rw [e,if_pos c]
 ·have hz:szv (tzRuleS xs) left=szv (xs.map tzRule).sum (left-(xs.length:Int)):=by unfold szv tzRuleS;split<;>split<;>omega
  rw [hz];have key:=sz_loop xs z94 tzRule (fun k l i=>x0_.l0 k xs l i) ?_ ?_ (left-(xs.length:Int)) (by omega) (by omega)
  ·obtain ⟨K,hK⟩:=key;refine ⟨K,fun k hk=>?_⟩;dsimp only
   unfold x0_.f
   rw [e,if_neg c];exact hK k hk
  ·intro i l r hi g0 g1 hneg hpos;have hrd:xv_ xs (i:Int)=xs.getD i z94:=by simp [xv_]
   obtain ⟨K1,s⟩:=sz_Rule (xs.getD i z94) (oe _ (getD_in _ hi)) l g0 g1;by_cases c2:l<(tzRule (xs.getD i z94):Int)
   ·rw [hneg c2];simp only [wj_ c2] at s;refine ⟨K1+1,fun k hk=>?_⟩;dsimp only
    obtain ⟨m,rfl⟩:∃m,k=m+1:=⟨k-1,by omega⟩;simp only [x0_.l0];rw [if_pos (by omega),if_pos (by omega),hrd,s m (by omega)];rfl
   ·have d2:(tzRule (xs.getD i z94):Int)≤l:=by omega
    obtain ⟨K2,h2⟩:=hpos d2;simp only [szv_pos d2] at s;refine ⟨K1+K2+1,fun k hk=>?_⟩;dsimp only
    obtain ⟨m,rfl⟩:∃m,k=m+1:=⟨k-1,by omega⟩;simp only [x0_.l0];rw [if_pos (by omega),if_pos (by omega),hrd,s m (by omega)];simp only [Option.bind_some];rw [if_neg (by omega),x7_ hi ol];exact h2 m (by omega)
  ·intro l;refine ⟨1,fun k hk=>?_⟩;dsimp only
   obtain ⟨m,rfl⟩:∃m,k=m+1:=⟨k-1,by omega⟩;simp only [x0_.l0];rw [if_neg (by omega)]
theorem to_RuleS (xs:List S94) (hs:tzRuleS xs≤1048576):Ev (fun k=>x1_.f k xs) (xs.map cvRule):=by
 unfold tzRuleS at hs
 have key:=to_loop xs z94 cvRule (fun k out i=>x1_.l0 k xs out i) ?_ ?_ (List.replicate xs.length z39) List.length_replicate
 ·obtain ⟨K,hK⟩:=key;refine ⟨K,fun k hk=>?_⟩;dsimp only
  unfold x1_.f
  rw [if_pos (by omega),if_pos (by rw [Int.toNat_natCast];omega),Int.toNat_natCast];exact hK k hk
 ·intro i out r hi ho h;obtain ⟨K,hK⟩:=h;have hrd:xv_ xs (i:Int)=xs.getD i z94:=by simp [xv_]
  have hm:=sum_le_of_mem tzRule xs _ (getD_in z94 hi);obtain ⟨K1,h1⟩:=to_Rule (xs.getD i z94) (by omega);dsimp only at h1
  refine ⟨K1+K+1,fun k hk=>?_⟩;dsimp only
  obtain ⟨m,rfl⟩:∃m,k=m+1:=⟨k-1,by omega⟩;simp only [x1_.l0];rw [if_pos (by omega),if_pos (by omega),hrd,h1 m (by omega)];simp only [Option.bind_some];rw [if_pos (by omega),x7_ hi (by omega),Int.toNat_natCast];exact hK m (by omega)
 ·intro out ho;refine ⟨1,fun k hk=>?_⟩;dsimp only
  obtain ⟨m,rfl⟩:∃m,k=m+1:=⟨k-1,by omega⟩;simp only [x1_.l0];rw [if_neg (by omega)]
def leRuleS (xs:List S39):Prop:=xs.length≤9223372036854775807∧∀x,x∈xs→leRule x
theorem eq_RuleS (xs:List S39) (hl:leRuleS xs):Ev (fun k=>yh_.f k xs xs) true:=by
 obtain ⟨hl,he⟩:=hl;have key:=eq_loop xs.length (fun k i=>yh_.l0 k xs xs i) ?_ ?_
 ·obtain ⟨K,hK⟩:=key;refine ⟨K,fun k hk=>?_⟩;dsimp only
  unfold yh_.f
  rw [if_pos (by trivial)];exact hK k hk
 ·intro i hi h;obtain ⟨K,hK⟩:=h;have hrd:z9_ xs (i:Int)=xs.getD i z39:=by simp [z9_]
  obtain ⟨K1,h1⟩:=eq_Rule (xs.getD i z39) (he _ (getD_in _ hi));dsimp only at h1
  refine ⟨K1+K+1,fun k hk=>?_⟩;dsimp only
  obtain ⟨m,rfl⟩:∃m,k=m+1:=⟨k-1,by omega⟩;simp only [yh_.l0];rw [if_pos (by omega),if_pos (by omega),if_pos (by omega),hrd,h1 m (by omega)];simp only [Option.bind_some];rw [if_pos (by trivial),x7_ hi hl];exact hK m (by omega)
 ·refine ⟨1,fun k hk=>?_⟩;dsimp only
  obtain ⟨m,rfl⟩:∃m,k=m+1:=⟨k-1,by omega⟩;simp only [yh_.l0];rw [if_neg (by omega)]
theorem le_cvRule (x:S94) (hs:tzRule x≤1048576):leRule (cvRule x):=by
 unfold tzRule at hs
 exact ⟨le_cvPatternS x.f2 (by omega),by show (x.f3.map cvExpr).length≤_;rw [List.length_map];unfold tzExprS at hs;omega,le_cvActionS x.f4 (by omega)⟩
theorem le_cvRuleS (xs:List S94) (hs:tzRuleS xs≤1048576):leRuleS (xs.map cvRule):=by
 unfold tzRuleS at hs
 refine ⟨by rw [List.length_map];omega,fun y hy=>?_⟩;obtain ⟨x,hx,rfl⟩:=List.mem_map.1 hy;have:=sum_le_of_mem tzRule xs x hx
 exact le_cvRule x (by omega)
theorem ruleSz_cv (R:List S94) (h:okRuleS R) (hs:tzRuleS R≤1048576):∀q,q∈R.map cvRule→RuleSz q:=by
 intro q hq;obtain ⟨x,hx,rfl⟩:=List.mem_map.1 hq;have h1:=h.2 x hx;have h2:=sum_le_of_mem tzRule R x hx;unfold tzRuleS at hs
 have ht:tzRule x≤1048576:=by omega
 unfold tzRule at ht
 refine ⟨?_,fun e he=>?_⟩
 ·show x.f0.size≤maxLen;unfold maxLen;omega
 ·have he2:e∈x.f3.map cvExpr:=he
  obtain ⟨z,hz,rfl⟩:=List.mem_map.1 he2;have h3:=sum_le_of_mem tzExpr x.f3 z hz;have h4:tzExprS x.f3≤1048576:=by omega
  unfold tzExprS at h4
  have h5:tzExpr z≤1048576:=by omega
  unfold tzExpr at h5
  obtain ⟨_,_,_,oe,_⟩:=h1;have h6:=oe.2 z hz;obtain ⟨_,o1,_⟩:=h6;refine ⟨o1,?_⟩;show z.f2.size≤maxLen;unfold maxLen;omega
theorem cn_le {α β : Type} (c : β→Nat) (t : α→Nat) (f : α→β) (K:Nat) (h:∀x,c (f x)≤K*(t x+1)):∀xs:List α,cnS c (xs.map f)≤K*(xs.length+(xs.map t).sum)
 | []=>by simp [cnS]
 | x::xs=>by
  have ih:=cn_le c t f K h xs;have hx:=h x;unfold cnS at ih ⊢
  rw [List.map_cons,List.map_cons,List.sum_cons,List.map_cons,List.sum_cons,List.length_cons]
  have e:K*(xs.length+1+(t x+(xs.map t).sum))=K*(t x+1)+K*(xs.length+(xs.map t).sum):=by
   rw [←Nat.mul_add];congr 1;omega
  omega
theorem cn_ints (xs:List Int):cnS c_int xs=xs.length:=by
 induction xs with
 | nil=>rfl
 | cons x xs ih=>
  unfold cnS at ih ⊢
  rw [List.map_cons,List.sum_cons,ih,List.length_cons];unfold c_int;omega
theorem cn_Term (xs:List S253):cnS c_Term (xs.map cvTerm)≤16*tzTermS xs:=by
 unfold tzTermS
 refine cn_le c_Term tzTerm cvTerm 16 (fun x=>?_) xs;unfold c_Term;omega
theorem cn_Pattern (xs:List S181):cnS c_Pattern (xs.map cvPattern)≤16*w3_ xs:=by
 unfold w3_
 refine cn_le c_Pattern wm_ cvPattern 16 (fun x=>?_) xs;have h:(cvPattern x).f2=x.f2.map cvTerm:=rfl
 have:=cn_Term x.f2
 unfold c_Pattern wm_
 rw [h];omega
theorem cn_Expr (xs:List S185):cnS c_Expr (xs.map cvExpr)≤16*tzExprS xs:=by
 unfold tzExprS
 refine cn_le c_Expr tzExpr cvExpr 16 (fun x=>?_) xs;unfold c_Expr;omega
theorem cn_Action (xs:List S187):cnS c_Action (xs.map cvAction)≤16*tzActionS xs:=by
 unfold tzActionS
 refine cn_le c_Action tzAction cvAction 16 (fun x=>?_) xs;have h:(cvAction x).f3=x.f3:=rfl
 have:=cn_ints x.f3
 unfold c_Action tzAction
 rw [h];omega
theorem cn_Rule (xs:List S94):cnS c_Rule (xs.map cvRule)≤16*tzRuleS xs:=by
 unfold tzRuleS
 refine cn_le c_Rule tzRule cvRule 16 (fun x=>?_) xs;have h2:(cvRule x).f2=x.f2.map cvPattern:=rfl
 have h3:(cvRule x).f3=x.f3.map cvExpr:=rfl
 have h4:(cvRule x).f4=x.f4.map cvAction:=rfl
 have:=cn_Pattern x.f2
 have:=cn_Expr x.f3
 have:=cn_Action x.f4
 unfold c_Rule tzRule
 rw [h2,h3,h4];omega
theorem cnt_le {α : Type} (c : α→Nat) (K:Nat):∀xs:List α,(∀x,x∈xs→c x≤K)→cntL c xs≤K * xs.length
 | [],_=>by simp [cntL]
 | x::xs,h=>by
  have ih:=cnt_le c K xs (fun y hy=>h y (List.mem_cons_of_mem _ hy));have h1:=h x List.mem_cons_self;rw [cntL_cons,List.length_cons,Nat.mul_succ];omega
theorem pats_cv {x:S94} (h:okRule x):∀p,p∈(cvRule x).f2→∀t,t∈p.f2→I64 t.f3.f1:=by
 obtain ⟨_,o1,o2,o3,o4⟩:=h;intro p hp t ht;obtain ⟨y,hy,rfl⟩:=List.mem_map.1 (show p∈x.f2.map cvPattern from hp);obtain ⟨z,hz,rfl⟩:=List.mem_map.1 (show t∈y.f2.map cvTerm from ht);obtain ⟨_,oT⟩:=o2.2 y hy;obtain ⟨_,_,_,oV⟩:=oT.2 z hz;obtain ⟨_,oN,_⟩:=oV;exact oN
def FnExactAlphaNet.Pure:Prop:=∀(l:List S94),okRuleS l→∃k,wi_.f k l=some true
theorem FnExactAlphaNet:FnExactAlphaNet.Pure:=by
 intro l hl
 have suf:(∃K,∀k,K≤k→FnExactAlphaNet.Facts k l)→∃k,wi_.f k l=some true:=by
  rintro ⟨K,hK⟩;exact ⟨K,by unfold wi_.f;rw [if_pos (hK K (Nat.le_refl _))]⟩
 apply suf
 clear suf;obtain ⟨K1,h1⟩:=sz_RuleS l hl 1048576 (by omega) (by omega);by_cases c1:(1048576:Int)<tzRuleS l
 ·rw [wj_ c1] at h1;exact ⟨K1,fun k hk=>⟨-1,h1 k hk,.inl (by omega)⟩⟩
 have d1:(tzRuleS l:Int)≤1048576:=by omega
 rw [szv_pos d1] at h1;obtain ⟨K3,h3⟩:=to_RuleS l (by omega)
 have hP:∀q,q∈l.map cvRule→q.f2.length≤1048576:=by
  intro q hq;obtain ⟨x,hx,rfl⟩:=List.mem_map.1 hq;have h2:=sum_le_of_mem tzRule l x hx;have hs:tzRuleS l≤1048576:=by omega
  unfold tzRuleS at hs
  have ht:tzRule x≤1048576:=by omega
  unfold tzRule w3_ at ht
  have e:(cvRule x).f2=x.f2.map cvPattern:=rfl
  rw [e,List.length_map];omega
 have hI:∀q,q∈l.map cvRule→∀p,p∈q.f2→∀t,t∈p.f2→I64 t.f3.f1:=by
  intro q hq;obtain ⟨x,hx,rfl⟩:=List.mem_map.1 hq;exact pats_cv (hl.2 x hx)
 obtain ⟨⟨al,of⟩,hz,⟨K5,h5⟩,⟨K6,h6⟩⟩:=net_both (l.map cvRule) (ruleSz_cv l hl (by omega)) hP hI
 have hb:al.length≤16777216∧of.length≤16∧(∀x,x∈al→GA x)∧(∀x,x∈of→x.length≤1048576):=by
  rcases hz with e|⟨h16,e⟩
  ·injection e with e1 e2
   subst e1;subst e2;exact ⟨Nat.zero_le _,Nat.zero_le _,fun x hx=>absurd hx List.not_mem_nil,fun x hx=>absurd hx List.not_mem_nil⟩
  ·have hr:=runR_len (l.map cvRule) ([],[]) hP hI (fun x hx=>absurd hx List.not_mem_nil) (fun x hx=>absurd hx List.not_mem_nil);rw [←e] at hr;obtain ⟨a1,a2,a3,a4⟩:=hr;dsimp only [List.length_nil] at a1 a2 a3 a4
   exact ⟨by omega,by omega,a3,a4⟩
 obtain ⟨b1,b2,b3,b4⟩:=hb
 have n1:cntL mnAlpha al≤38 * al.length:=cnt_le mnAlpha 38 al (fun x hx=>by
  have:=(b3 x hx).2.1
  unfold mnAlpha
  rw [tests_cnt];omega)
 have n2:cntL mnII of≤1048576 * of.length:=cnt_le mnII 1048576 of (fun x hx=>by
  have:=b4 x hx
  unfold mnII
  rw [cntI];omega)
 obtain ⟨K7,h7⟩:=eqNet_ al of (by omega) (fun x hx=>by have:=(b3 x hx).2.1;omega) (by omega) (fun x hx=>by have:=b4 x hx;omega);obtain ⟨K8,h8⟩:=eq_RuleS (l.map cvRule) (le_cvRuleS l (by omega));have q1:=cn_Rule l;obtain ⟨K9,h9⟩:=markAlphas al 1 (fun x hx=>by have:=(b3 x hx).2.1;omega) (by omega) (by omega);obtain ⟨K10,h10⟩:=markIntss of (1+cntL mnAlpha al) (fun x hx=>by have:=b4 x hx;omega) (by omega) (by omega)
 have hh:Ev (fun k=>laws_heldNet.f k (mkL mkAlpha mnAlpha 1 al) (mkL mkII mnII (1+cntL mnAlpha al) of) 1) (1+cntL mnAlpha al+cntL mnII of):=by
  refine Ev.congr (fun k=>by unfold laws_heldNet.f;exact rfl) ?_;refine Ev.bind (heldAlphas al 1 (by omega) (fun x hx=>by have:=(b3 x hx).2.1;omega) (by omega) (by omega)) (Ev.ifF (by omega) ?_);refine Ev.bind (heldIntss of (1+cntL mnAlpha al) (by omega) (fun x hx=>by have:=b4 x hx;omega) (by omega) (by omega)) (Ev.ifF (by omega) (Ev.now _))
 obtain ⟨K11,h11⟩:=hh;exact ⟨K1+K3+K5+K6+K7+K8+K9+K10+K11,fun k hk=>⟨_,h1 k (by omega),.inr ⟨by omega,l.map cvRule,al,of,_,_,h3 k (by omega),h5 k (by omega),h6 k (by omega),h7 k (by omega),h8 k (by omega),by omega,h9 k (by omega),h10 k (by omega),h11 k (by omega),by dsimp only;omega⟩⟩⟩
end Go.Proofs.YtahambloheoebaaGreatDoor.Pure
namespace Go.Proofs.YtahambloheoebaaGreatDoorX
open Go.RowKit Go.Proofs.YtahambloheoebaaGreatDoorW.PrintWords
def Rdb {α : Type} (P:Program) (W:World) (T:TypeId) (d:Kd α) (ok : α→Prop):Prop:=
 ∀(H:Type) (enc:TypeId×Value→H) (sp:Nat→Bool) (fuel:Nat) (cs:List Value) (r:DataW H×List MemPlace),DataW.trod enc P W 0 sp true fuel T cs=some r→∃x,d.K W x cs∧ok x
section
variable {P:Program} {W:World} {T:TypeId}
theorem rdb_bool (hu:P.underlying T=some .bool):Rdb P W T Kd.bool (fun _=>True):=by
 intro H enc sp fuel cs r h;obtain ⟨n,rfl,_⟩:=DataW.trod_bool hu h;exact ⟨n,rfl,trivial⟩
theorem rdb_string (hu:P.underlying T=some .string):Rdb P W T Kd.string (fun s=>s.size≤9223372036854775807):=by
 intro H enc sp fuel cs r h;obtain ⟨s,rfl,_,hs⟩:=DataW.trod_string hu h;exact ⟨s,rfl,by simpa [maxLen] using hs⟩
theorem list_choice {α : Type} (Q:Nat→α→Prop):∀n,(∀i,i<n→∃x,Q i x)→∃xs:List α,xs.length=n∧∀i x,xs[i]?=some x→Q i x
 | 0,_=>⟨[],rfl,fun i x h=>by simp at h⟩
 | n+1,h=>by
  obtain ⟨xs,hl,hx⟩:=list_choice Q n (fun i hi=>h i (by omega));obtain ⟨y,hy⟩:=h n (by omega);refine ⟨xs++[y],by simp [hl],fun i x hi=>?_⟩;rcases Nat.lt_or_ge i xs.length with c|c
  ·rw [List.getElem?_append_left c] at hi;exact hx i x hi
  ·rw [List.getElem?_append_right c] at hi
   have e:i-xs.length=0:=by
    rcases Nat.eq_zero_or_pos (i-xs.length) with e|e
    ·exact e
    ·rw [List.getElem?_eq_none (by simp;omega)] at hi;cases hi
   rw [e] at hi;have:y=x:=by simpa using hi
   rw [←this,show i=n by omega];exact hy
theorem add_plus (a:Addr) (m n:Nat):(a.add m).add n=a.add (m+n):=by
 unfold Addr.add
 by_cases h1:m=0
 ·subst h1;simp
 ·by_cases h2:n=0
  ·subst h2;simp
  ·simp [h1,h2];omega
theorem rdb_slice {α : Type} {d:Kd α} {ok : α→Prop} {e:TypeId} (hu:P.underlying T=some (.slice e)) (hc:P.cellsOf e=d.sz) (he:Rdb P W e d ok):
  Rdb P W T (Kd.slice e d) (fun xs=>xs.length≤9223372036854775807∧∀x,x∈xs→ok x):=by
 intro H enc sp fuel cs r h;rcases DataW.trod_slice hu h with ⟨rfl,_⟩|⟨a,len,cap,elems,rest,n,_,rfl,_,_,hl,hcap,hel,hrd,_,_⟩
 ·exact ⟨[],⟨none,0,rfl,Nat.le_refl _,rfl,by simp,fun h=>absurd h (by simp)⟩,by simp,fun x hx=>absurd hx (by simp)⟩
 ·have hex:∀i,i<len→∃x,∃c,c.length=d.sz∧d.K W x c∧(∀j u,c[j]?=some u→W.cell? (a.add (i * d.sz+j))=some u)∧ok x:=by
   intro i hi;have h1:=hrd i hi;rw [List.getElem?_eq_getElem (by omega)] at h1;obtain ⟨c,h2,h3⟩:=Option.bind_eq_some_iff.1 h1;obtain ⟨x,hx,hok⟩:=he H enc sp n c _ h3;obtain ⟨_,h5,h6⟩:=World.cells?_some h2;refine ⟨x,c,d.K_len hx,hx,fun j u hj=>?_,hok⟩
   have hlt:j<P.cellsOf e:=by
    have:=(List.getElem?_eq_some_iff.1 hj).1
    omega
   have h7:=h6 j hlt;rw [hj,hc,add_plus] at h7;exact h7
  obtain ⟨xs,hxl,hxs⟩:=list_choice _ len hex;refine ⟨xs,⟨some a,cap,by rw [hxl],by omega,rfl,by simp [maxLen] at hcap;omega,fun _=>⟨a,rfl,fun j p hj=>?_⟩⟩,by simp [maxLen] at hcap;omega,fun x hx=>?_⟩
  ·obtain ⟨c,h1,h2,h3,_⟩:=hxs j p hj;exact ⟨c,h1,h2,h3⟩
  ·obtain ⟨i,hi,e⟩:=List.getElem_of_mem hx;obtain ⟨c,_,_,_,h4⟩:=hxs i x (by rw [List.getElem?_eq_getElem hi,e]);exact h4
theorem rdb_i64 (hu:P.underlying T=some (.int .i64)):Rdb P W T (Kd.int .i64) okInt:=by
 intro H enc sp fuel cs r h;obtain ⟨n,rfl,_,hw⟩:=DataW.trod_int hu h;refine ⟨n,rfl,?_⟩;simp only [Lit.wf,Bool.and_eq_true,decide_eq_true_eq] at hw;exact hw
theorem rdb_u8 (hu:P.underlying T=some (.int .u8)):Rdb P W T (Kd.int .u8) okByte:=by
 intro H enc sp fuel cs r h;obtain ⟨n,rfl,_,hw⟩:=DataW.trod_int hu h;refine ⟨n,rfl,?_⟩;simp only [Lit.wf,Bool.and_eq_true,decide_eq_true_eq] at hw;exact hw
theorem len_s {α : Type} {cs:List α} {n:Nat} (h:cs.length=n+1):∃a r,cs=a::r∧r.length=n:=by
 cases cs with
 | nil=>cases h
 | cons a r=>exact ⟨a,r,rfl,by simpa using h⟩
theorem len_z {α : Type} {cs:List α} (h:cs.length=0):cs=[]:=List.length_eq_zero_iff.1 h
end
end Go.Proofs.YtahambloheoebaaGreatDoorX
