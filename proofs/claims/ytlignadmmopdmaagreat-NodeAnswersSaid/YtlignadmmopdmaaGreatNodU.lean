/- A part of the proof. -/
import Derived.Test.YtlignadmmopdmaaGreatNodT
import Derived.Test.YtlignadmmopdmaaGreatNodP
set_option linter.unusedVariables false
set_option linter.unusedSimpArgs false
set_option linter.constructorNameAsVariable false
namespace Go.Sl
theorem mayMk{k e s n b c r t0 t1 t2 t3:Int}{d w:Bytes}(hk:1≤k∧k≤15)(he:N62 e)(hs:N62 s)(hn: -4611686018427387904≤n∧n≤4611686018427387904)(hb: -1≤b∧b≤31)(hc: -1≤c∧c≤3)(hr:0≤r∧r≤31)(hd:d.length≤40)(hw:w.length≤10)
  (h0:N62 t0) (h1:N62 t1) (h2:N62 t2) (h3:N62 t3):(⟨k,e,s,n,b,c,r,t0,t1,t2,t3,d,w⟩:MsgM).may=true:=
 nmay_P.2 ⟨h0,h1,h2,h3,by show(d.length:Int)≤40;omega,by show(w.length:Int)≤10;omega,hk,he,hs,hn,hb,hc,hr⟩
namespace NodM
variable {n : NodM} {K : Nat}
theorem askM_may(h:n.ok K)(hK:K≤1000000):n.askM.may=true:=by
 have:=h.n.born;have:=h.n.clock;refine mayMk (by decide) h.n.epoch ?_ ⟨by omega,by omega⟩ (by decide) (by decide) (by decide) (by decide) (by decide) n620 n620 n620 n620;split
 · exact⟨by decide,by decide⟩
 · exact n620
end NodM
end Go.Sl