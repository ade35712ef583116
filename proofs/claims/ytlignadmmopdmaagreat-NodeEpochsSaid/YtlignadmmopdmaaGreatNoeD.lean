/- A part of the proof. -/
import Derived.Test.YtlignadmmopdmaaGreatNoeC
import Derived.Test.YtlignadmmopdmaaGreatN45
set_option linter.unusedVariables false
set_option linter.unusedSimpArgs false
set_option linter.constructorNameAsVariable false
namespace Go.Sl
theorem NJ.dA{m N j:Nat}{n:aa}(h:NJ m N j n){x:Int}(hx:x≤9223372036854775807):NJ m N j (n.dA x):=by
 obtain⟨⟨W,k,hk,hi⟩,a,b,c,d,f,g14⟩:=h;refine⟨⟨W,k,hk,?_⟩,a,az.kd b hx,c,d,f,g14⟩;rcases hi with g|g
 ·rcases rY.dA (.inl g.go) hx with q|q
  ·exact .inl ⟨q,g.fo,g.fs,g.ft,g.da⟩
  ·exact absurd q.dead (by show¬n.d.dead=true;rw[g.len.1.live];decide)
 ·rcases rY.dA (C:=n.c) (.inr g.go) hx with q|q
  ·exact absurd q.lk.2.1.live (by show¬n.d.dead=false;rw[g.go.dead];decide)
  ·refine .inr ⟨q,fun ks kn=>?_⟩;show∃e,fact (aF ((n.d.gZ x).bD ks) 0 1).text=some e∧n.ah≤e;rw[xv];exact g.ft ks kn
end Go.Sl