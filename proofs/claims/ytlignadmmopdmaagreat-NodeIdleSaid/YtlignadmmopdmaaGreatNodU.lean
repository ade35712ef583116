/- A part of the proof. -/
import Derived.Test.YtlignadmmopdmaaGreatNodT
import Derived.Test.YtlignadmmopdmaaGreatNodP
set_option linter.unusedVariables false
set_option linter.unusedSimpArgs false
set_option linter.constructorNameAsVariable false
namespace Go.Sl
theorem mayMk{k e s n b c r t0 t1 t2 t3:Int}{d w:Bytes}(hk:1≤k∧k≤15)(he:N62 e)(hs:N62 s)(hn: -4611686018427387904≤n∧n≤4611686018427387904)(hb: -1≤b∧b≤31)(hc: -1≤c∧c≤3)(hr:0≤r∧r≤31)(hd:d.length≤40)(hw:w.length≤10)
  (h0:N62 t0) (h1:N62 t1) (h2:N62 t2) (h3:N62 t3):(⟨k,e,s,n,b,c,r,t0,t1,t2,t3,d,w⟩:MsgM).may=true:=
 nmay_P.2 ⟨h0,h1,h2,h3,by show(d.length:Int)≤40;omega,by show(w.length:Int)≤10;omega,hk,he,hs,hn,hb,hc,hr⟩
namespace NodM
variable {n : NodM} {K : Nat}
/-- What a node that doesn't lead may send. -/
def IdleK(y:LetM):Prop:=y.body.length≤1000∧((decMsg y.body).1.kind=1∨(decMsg y.body).1.kind=6∨(decMsg y.body).1.kind=8∨((decMsg y.body).1.kind=15∧(decMsg y.body).1.e=20))
theorem idle_one{m:MsgM}(hm:m.may=true)(h:m.kind=1∨m.kind=6∨m.kind=8∨(m.kind=15∧m.e=20)){i t:Int}:IdleK ⟨i,t,encMsg m⟩:=by
 unfold IdleK;dsimp only;rw[decMsg_enc hm];exact⟨encMsg_len _,h⟩
theorem idle_send{n:NodM}(h:n.out=[]){to:Int}{m:MsgM}(hm:m.may=true)(hk:m.kind=1∨m.kind=6∨m.kind=8∨(m.kind=15∧m.e=20)): ∀y∈(n.send to m).out,IdleK y:=by
 intro y hy;have:y=⟨n.id,to,encMsg m⟩:=by simpa[send,h]using hy
 subst this;exact idle_one hm hk
theorem nil_idle{n:NodM}(h:n.out=[]): ∀y∈n.out,IdleK y:=by rw[h];intro y hy;cases hy
theorem askM_may(h:n.ok K)(hK:K≤1000000):n.askM.may=true:=by
 have:=h.n.born;have:=h.n.clock;refine mayMk (by decide) h.n.epoch ?_ ⟨by omega,by omega⟩ (by decide) (by decide) (by decide) (by decide) (by decide) n620 n620 n620 n620;split
 · exact⟨by decide,by decide⟩
 · exact n620
theorem adopt_out(e:Int):(n.adopt e).2.out=n.out:=by
 unfold adopt;split
 · rfl
 · unfold andB;split<;>rfl
theorem adopt_role(e:Int)(h:n.role=0):(n.adopt e).2.role=0:=by
 unfold adopt;split
 · exact h
 · unfold andB;split<;>rfl
theorem then_role{r:Bool × NodM}{f:NodM→NodM}(h:(andThen r f).role=0)(hf:(f r.2).role≠0):andThen r f=r.2:=by
 unfold andThen at*;split
 · rename_i c;rw[if_pos c]at h;exact absurd h hf
 · rfl
theorem idle_granted(ho:n.out=[])(hr:n.role=0)(m:MsgM)(hr2:(n.granted m).role=0):(n.granted m).out=[]:=by
 unfold granted granted1 at*;split
 ·split
  · exact ho
  · exact ho
 rename_i h1;rw[if_neg h1]at hr2
 split
 ·exact ho
 rename_i h2;rw[if_neg h2]at hr2
 split
 ·rename_i h3;rw[if_pos h3]at hr2
  rw[then_role hr2 (by show(1:Int)≠0;decide)];exact(adopt_out _).trans ho
 split<;>exact ho
theorem outB{r:Bool × NodM}{f:NodM→Bool × NodM}{w:List LetM}(h:r.2.out=w)(hf: ∀n,n.out=w→(f n).2.out=w):(andB r f).2.out=w:=by
 unfold andB;split;exact hf _ h;exact h
theorem idle_met(hok:n.ok K)(ho:n.out=[])(hr:n.role=0){m:MsgM}(hm:m.ok): ∀y∈(n.met m).out,IdleK y:=by
 have hT:=fun(n:NodM) (h:n.ok K)=>(show N62 n.c.k.s from h.p.c.k.s)
 unfold met;split
 ·split
  ·exact nil_idle ho
  have g:=hok.adopt hm.epoch;have go:=(adopt_out (n:=n) m.epoch).trans ho;have gr:=adopt_role (n:=n) m.epoch hr;generalize n.adopt m.epoch=r at*;unfold andThen;split
  ·unfold met1;dsimp only;rw[if_neg (by omega)];generalize r.2=k at*;split
   ·unfold taken;split
    ·exact nil_idle go
    have had: ∀k:NodM,k.ok K→k.out=[]→ ∀y∈(k.hadM m).out,IdleK y:=fun k g go=>
     idle_send go (mayMk (by decide) hm.epoch (hT _ g) (by decide) (by decide) (by decide) (by decide) (by decide) (by decide) n620 n620 n620 n620) (.inr (.inl rfl))
    have lo: ∀k:NodM,k.out=[]→(k.lay m).2.out=[]:=fun k h=>by
     unfold lay;refine outB (by unfold lay1;split<;>exact h) fun k h=>?_
     split
     ·exact h
     ·refine outB (by unfold lay2;split<;>exact h) fun k h=>?_
      unfold lay3;split<;>exact h
    split
    ·have g2:=g.lay m;have o2:=lo k go;have g3:(andB (k.lay m) sync).2.ok K:=(ok_andB (c:=0) g2 fun h=>h.sync);have o3:(andB (k.lay m) sync).2.out=[]:=by unfold andB;split<;>exact o2
     generalize andB (k.lay m) sync=q at*;unfold andThen;split
     ·exact had _ g3 o3
     ·exact nil_idle o3
    ·exact had _ g go
   ·have hre: ∀k:NodM,k.out=[]→ ∀y∈(k.readyM m).out,IdleK y:=fun k go=>
     idle_send go (mayMk (by decide) hm.epoch hm.seq (by decide) (by decide) (by decide) (by decide) (by decide) (by decide) n620 n620 n620 n620) (.inr (.inr (.inl rfl)))
    unfold begun;split
    ·exact nil_idle go
    split
    ·exact hre _ go
    have o2:(k.cleared m).2.out=[]:=by
     have he: ∀(a:Nat × Nat) (l:List EntM) (n:NodM),(eachB (cleared1 a) l n).2.out=n.out:=by
      intro a l;induction l with
      |nil=>intro n;rfl
      |cons x l ih=>
       intro n;have h1:(cleared1 a n x).2.out=n.out:=by unfold cleared1;split<;>rfl
       unfold eachB;split
       · exact h1
       · exact(ih _).trans h1
     unfold cleared;split
     ·exact go
     ·exact outB ((he _ _ _).trans go) fun k h=>outB h fun k h=>h
    generalize k.cleared m=q at*;unfold andThen;split
    ·exact hre _ o2
    ·exact nil_idle o2
  ·exact nil_idle go
 split
 ·unfold metH;rw[if_neg (by omega)];exact nil_idle ho
 split
 ·unfold metR;rw[if_neg (by omega)];exact nil_idle ho
 split
 ·unfold metC;split
  ·split<;>exact nil_idle ho
  ·exact nil_idle ho
 ·exact nil_idle ho
theorem idle_called(hok:n.ok K)(ho:n.out=[])(hr:n.role=0){frm:Int}{m:MsgM}(hm:m.ok): ∀y∈(n.called frm m).out,IdleK y:=by
 have hre:n.refused m=20:=if_pos (by omega);have hce:n.calledE (callW frm m) m=some 20:=by unfold calledE;rw[hre];rfl
 unfold called;split
 · exact nil_idle ho
 rename_i h1
 rw[hce];dsimp only;rw[if_neg (by decide)];unfold called1;rw[if_neg (by simp),if_pos (by decide)];have hb:=hm.block;have hn:=hm.n;refine idle_send ho (mayMk (by decide) hok.n.epoch n620 hn hb (by decide) (by decide) (by decide) (by decide) n620 n620 n620 n620) (.inr (.inr (.inr ⟨rfl,rfl⟩)))
/-- Who doesn't lead, ahead and behind, sends what he may. -/
theorem idle(hok:n.ok K)(hK:K+1≤1000000)(hl:n.lost=false)(hr:n.role=0)(a:ActN)(hr2:(n.step a).role=0): ∀y∈n.told a,IdleK y:=by
 unfold told;split;rotate_left
 ·intro y hy;cases hy
 unfold step at*;split
 ·rename_i h0;rw[if_pos h0]at hr2
  revert hr2;unfold take take1;split
  ·intro _;exact nil_idle rfl
  split
  ·intro _;exact nil_idle rfl
  split
  ·intro _;exact nil_idle rfl
  rename_i h3
  have hm:=decMsg_ok (s:=(letN a).body) (by simpa using h3);split
  ·intro _;exact nil_idle rfl
  intro hr2;have hc:=hok.clear
  have h6:(n.clear.hear (letN a).frm (decMsg (letN a).body).1).role=0→ ∀y∈(n.clear.hear (letN a).frm (decMsg (letN a).body).1).out,IdleK y:=by
   unfold hear;split
   ·unfold heard;rw[if_neg (by rw[show n.clear.lost=false from hl];exact Bool.false_ne_true)];split
    · intro h;exact nil_idle (idle_granted (n:=n.clear) rfl hr _ h)
    split
    · intro _;exact nil_idle rfl
    rename_i h7;exact absurd (.inr (.inl (by show n.role<2;omega))) h7
   split
   ·intro _;unfold backed;split
    · exact nil_idle rfl
    rename_i h7;exact absurd (.inr hr) h7
   split
   ·intro _;exact idle_met hc rfl hr hm
   ·intro _;exact idle_called hc rfl hr hm
  have h8: ∀k:NodM,k.hush.role=k.role:=fun k=>by unfold hush;split<;>rfl
  dsimp only at hr2;rw[h8]at hr2;have h9:=h6 hr2;unfold hush;split
  ·exact nil_idle rfl
  ·exact h9
 rename_i h0;rw[if_neg h0]at hr2
 split
 ·unfold tick;split
  ·exact nil_idle rfl
  unfold tick1;rw[if_neg (by rw[show n.clear.tick0.lost=false from hl];exact Bool.false_ne_true)];have h9:n.clear.tick0.role=0:=hr;unfold tick2;rw[if_neg (by show¬n.role=1;omega),if_neg (by show¬2≤n.role;omega)];exact idle_send rfl (askM_may hok.clear.tick0 (by omega)) (.inl rfl)
 ·rename_i h1 h2;exact absurd h1 (by omega)
end NodM
end Go.Sl