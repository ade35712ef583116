/- A part of the proof. -/
import Derived.Test.YtlignadmmopdmaaGreatNodT
set_option linter.unusedVariables false
set_option linter.unusedSimpArgs false
set_option linter.constructorNameAsVariable false
namespace Go.Sl
theorem A4{e:Int}(h:gg e):(⟨50,[e],[]⟩:RecM).may:=by
 have a:=h.1;have b:=h.2;refine⟨(by decide:(0:Int)≤50),(by decide:(50:Int)≤255),(by decide:1≤16),(by decide:0≤4),fun t ht=>(by cases ht),fun z hz=>?_⟩;simp only[List.mem_cons,List.not_mem_nil,or_false]at hz;subst hz;omega
theorem D4{e:Int}(h:gg e):cR e=bL ⟨50,[e],[]⟩:=by unfold cR;rw[qa (A4 h)]
theorem nU{e:Int}(h:gg e):fact (cR e)=some e:=by
 rw[D4 h];unfold fact;rw[lC (nF (A4 h)),if_pos ⟨rfl,rfl,rfl,rfl,h.1,h.2⟩];rfl
theorem j6{e:Int}(h:gg e):(cR e).length≤100:=by
 rw[D4 h];have:=jb h;simp[bL,eZ,fJ];omega
theorem CC{n:aa}{e:Int}(h:fact n.f.text=some e):gG n=aa.iF {n with ah:=e} e:=by unfold gG;rw[h]
end Go.Sl