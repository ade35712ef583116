/- A part of the proof. -/
import Derived.Test.YtlignadmmopdmaaGreatNodT
set_option linter.unusedVariables false
set_option linter.unusedSimpArgs false
set_option linter.constructorNameAsVariable false
namespace Go.Sl
theorem nfact_may{e:Int}(h:N62 e):(⟨50,[e],[]⟩:RecM).may:=by
 have a:=h.1;have b:=h.2;refine⟨(by decide:(0:Int)≤50),(by decide:(50:Int)≤255),(by decide:1≤16),(by decide:0≤4),fun t ht=>(by cases ht),fun z hz=>?_⟩;simp only[List.mem_cons,List.not_mem_nil,or_false]at hz;subst hz;omega
theorem factB_eq{e:Int}(h:N62 e):factB e=recB ⟨50,[e],[]⟩:=by unfold factB;rw[enc_may (nfact_may h)]
theorem fact_factB{e:Int}(h:N62 e):fact (factB e)=some e:=by
 rw[factB_eq h];unfold fact;rw[decM_some (recD_recB (nfact_may h)),if_pos ⟨rfl,rfl,rfl,rfl,h.1,h.2⟩];rfl
theorem factB_len{e:Int}(h:N62 e):(factB e).length≤100:=by
 rw[factB_eq h];have:=numB_10 h;simp[recB,numsB,textsB];omega
theorem nodFact_none{n:NodM}(h:fact n.f.text=none):nodFact n=(0,{n with lost:=true}):=by unfold nodFact;rw[h]
theorem nodFact_some{n:NodM}{e:Int}(h:fact n.f.text=some e):nodFact n=NodM.boot {n with epoch:=e} e:=by unfold nodFact;rw[h]
end Go.Sl