/- A part of the proof. -/
import Derived.Test.YtlignadmmopdmaaGreatNodT
import Derived.Test.YtlignadmmopdmaaGreatNodP
set_option linter.unusedVariables false
set_option linter.unusedSimpArgs false
set_option linter.constructorNameAsVariable false
namespace Go.Sl
theorem mayMk{k e s n b c r t0 t1 t2 t3:Int}{d w:Bytes}(hk:1≤k∧k≤15)(he:N62 e)(hs:N62 s)(hn: -4611686018427387904≤n∧n≤4611686018427387904)(hb: -1≤b∧b≤31)(hc: -1≤c∧c≤3)(hr:0≤r∧r≤31)(hd:d.length≤40)(hw:w.length≤10)
  (h0:N62 t0) (h1:N62 t1) (h2:N62 t2) (h3:N62 t3):(⟨k,e,s,n,b,c,r,t0,t1,t2,t3,d,w⟩:MsgM).may=true:=
 nmay_P.2 ⟨h0,h1,h2,h3,by show(d.length:Int)≤40;omega,by show(w.length:Int)≤10;omega,hk,he,hs,hn,hb,hc,hr⟩
namespace NodM
variable {n : NodM} {K : Nat}
theorem found_out(e:Int):(n.found e).out=n.out:=by
 have h1: ∀(l:List Nat) (n:NodM),(eachB found1 l n).2.out=n.out:=by
  intro l;induction l with
  |nil=>intro n;rfl
  |cons x l ih=>intro n;unfold eachB;split;rfl;exact(ih _).trans rfl
 unfold found;have h2:=h1 (List.range n.blocks.toNat) n;unfold andThen;split
 ·have h3:((eachB found1 (List.range n.blocks.toNat) n).2.boot e).2.out=n.out:=by
   unfold boot;dsimp only;split
   · exact h2
   split<;>exact h2
  unfold found2;dsimp only;split<;>exact h3
 ·exact h2
end NodM
end Go.Sl