/- A part of the proof. -/
import Derived.Test.YtlignadmmopdmaaGreatNodU
set_option linter.unusedVariables false
set_option linter.unusedSimpArgs false
set_option linter.constructorNameAsVariable false
namespace Go.Sl
def IsA(a b:Int)(y:LetM):Bool:=decide ((decMsg y.body).1.kind=15)&&decide (y.to=a)&&decide ((decMsg y.body).1.n=b)
def IsW(a b:Int)(w:WaitM):Bool:=decide (4+w.cl=a)&&decide (w.n=b)
structure LetOk(i:Int)(y:LetM):Prop where
 dec:(decMsg y.body).2=0
 frm:y.frm=i
 to:y.to≠i
 k:(decMsg y.body).1.kind≠15→y.to<4
 len:y.body.length≤1000
 rg:0≤y.to∧y.to≤7
/-- What waits, and what is answered, isn't more than was called. -/
structure AnsL(c:Int→Int→Nat)(l:List WaitM)(n:NodM):Prop where
 out: ∀y∈n.out,LetOk n.id y
 cnt: ∀a b,l.countP (IsW a b)+n.out.countP (IsA a b)≤c a b
namespace NodM
variable {n : NodM} {K : Nat} {c : Int → Int → Nat} {l : List WaitM}
abbrev Ans(c:Int→Int→Nat)(n:NodM):Prop:=AnsL c n.waits n
theorem _root_.Go.Sl.AnsL.sub{l':List WaitM}(h:AnsL c l n)(hl: ∀a b,l'.countP (IsW a b)≤l.countP (IsW a b)):AnsL c l' n:=⟨h.out,fun a b=>by have:=h.cnt a b;have:=hl a b;omega⟩
theorem _root_.Go.Sl.AnsL.send(h:AnsL c l n){to:Int}{m:MsgM}(hm:m.may=true)(hk:m.kind≠15)(ht:to≠n.id)(h4:0≤to∧to<4):AnsL c l (n.send to m):=by
 refine⟨fun y hy=>?_,fun a b=>?_⟩
 ·rcases List.mem_append.1 (show y∈n.out++([⟨n.id,to,encMsg m⟩]:List LetM)from hy)with hy|hy
  ·exact h.out y hy
  ·simp only[List.mem_singleton]at hy;subst hy;exact⟨by dsimp only;rw[decMsg_enc hm],rfl,ht,fun _=>h4.2,encMsg_len _,h4.1,by show to≤7;omega⟩
 ·show l.countP _+(n.out++([⟨n.id,to,encMsg m⟩]:List LetM)).countP (IsA a b)≤_;have e:IsA a b ⟨n.id,to,encMsg m⟩=false:=by unfold IsA;dsimp only;rw[decMsg_enc hm];simp[hk]
  rw[List.countP_append,List.countP_singleton,e];have:=h.cnt a b;simpa using this
theorem _root_.Go.Sl.AnsL.ans{w:WaitM}(h:AnsL c (w::l) n)(hn:n.ok K)(hw:0≤w.cl∧w.cl≤3)(hwn:1≤w.n∧w.n≤4611686018427387904)(hb: -1≤w.blk∧w.blk≤31){e:Int}(he:0≤e∧e≤31){data:Bytes}(hd:data.length≤40):AnsL c l (n.answer w e data):=by
 have hid:=hn.a.id;have hm:(⟨15,n.epoch,0,w.n,w.blk,-1,e,0,0,0,0,data,[]⟩:MsgM).may=true:=mayMk (by decide) hn.n.epoch n620 (by omega) hb (by decide) he hd (by decide) n620 n620 n620 n620;refine⟨fun y hy=>?_,fun a b=>?_⟩
 ·rcases List.mem_append.1 (show y∈n.out++([⟨n.id,4+w.cl,_⟩]:List LetM)from hy)with hy|hy
  ·exact h.out y hy
  ·simp only[List.mem_singleton]at hy;subst hy;exact⟨by dsimp only;rw[decMsg_enc hm],rfl,by show 4+w.cl≠n.id;omega,fun hk=>absurd (by dsimp only;rw[decMsg_enc hm]) hk,encMsg_len _,by show 0≤4+w.cl;omega,by show 4+w.cl≤7;omega⟩
 ·have h1:=h.cnt a b;show l.countP _+(n.out++([⟨n.id,4+w.cl,_⟩]:List LetM)).countP (IsA a b)≤_;have e1:IsA a b ⟨n.id,4+w.cl,encMsg ⟨15,n.epoch,0,w.n,w.blk,-1,e,0,0,0,0,data,[]⟩⟩=IsW a b w:=by unfold IsA IsW;dsimp only;rw[decMsg_enc hm];simp
  rw[List.countP_append,List.countP_singleton,e1];rw[List.countP_cons]at h1;omega
theorem load_ans(h:AnsL c l n)(hn:n.ok K){b q:Int}(hb: -1≤b∧b≤31)(hq:0≤q∧q≤1000000):AnsL c l (n.load b q):=
 h.send (mayMk (by decide) hn.n.epoch n620 (by omega) hb (by decide) (by decide) (by decide) (by decide) n620 n620 n620 n620) (by decide:(12:Int)≠15) (by have:=hn.a.id;omega) (by decide)
theorem store_ans(h:AnsL c l n)(hn:n.ok K){x:EntM}{m:Nat}(hx:x.ok m)(hm:m≤32){cl q:Int}(hc: -1≤cl∧cl≤3)(hq:N62 q):AnsL c l (n.store x cl q):=by
 have:=hx.blk;have:=hx.vs;have:=hx.data;have:=hq.1;have:=hq.2;exact h.send (mayMk (by decide) hn.n.epoch ⟨by omega,hx.vs.2⟩ (by omega) (by omega) hc (by decide) (by omega) (by decide) hn.t.a hn.t.b hn.t.c hn.t.d) (by decide:(10:Int)≠15) (by have:=hn.a.id;omega) (by decide)
theorem peer_ne(hn:n.ok K):n.peer≠n.id∧0≤n.peer∧n.peer<4:=by have:=hn.a.id;unfold peer;omega
theorem put_ans(h:AnsL c l n)(hn:n.ok K){x:ItemM}(hx:x.ok):AnsL c l (n.put x):=by
 have:=hx.data;have:=hx.n.1;have:=hx.n.2;exact h.send (mayMk (by decide) hn.n.epoch hx.seq (by omega) hx.blk hx.cl (by decide) (by omega) (by decide) hn.t.a hn.t.b hn.t.c hn.t.d) (by decide:(5:Int)≠15) (peer_ne hn).1 (peer_ne hn).2
theorem changes_ans(h:Ans c n)(hn:n.ok K)(hK:K≤1000000){mk:Int}(hm:0≤mk∧mk≤3):Ans c (n.changes mk):=by
 have hc:=hn.n.change;have hid:=hn.a.id;unfold changes;dsimp only;split
 · exact AnsL.send (n:={n with change:=n.change+1,want:=mk}) ⟨h.out,h.cnt⟩ (mayMk (by decide) hn.n.epoch ⟨hm.1,by omega⟩ (by dsimp only;omega) (by decide) (by decide) (by decide) (by decide) (by decide) n620 n620 n620 n620) (by decide:(3:Int)≠15) (by show(2:Int)≠n.id;omega) (by decide)
 · exact h.send (mayMk (by decide) hn.n.epoch ⟨hm.1,by omega⟩ (by omega) (by decide) (by decide) (by decide) (by decide) (by decide) n620 n620 n620 n620) (by decide:(3:Int)≠15) (by omega) (by decide)
theorem fold_ans{α:Type}{f:NodM→α→NodM}{P:α→Prop}(hf: ∀n K x,P x→n.ok K→K≤1000000→ ∀l,AnsL c l n→AnsL c l (f n x))(ho: ∀n K x,n.ok K→(f n x).ok (K+1)): ∀(k:List α) {n:NodM} {K:Nat},(∀x∈k,P x)→n.ok K→K+k.length≤1000000→ ∀l,AnsL c l n→AnsL c l (k.foldl f n)
 | [],_,_,_,_,_,_,h=>h
 |x::k,n,K,hP,hn,hK,l,h=>by
  rw[List.length_cons]at hK;exact fold_ans hf ho k (fun y hy=>hP y (by simp[hy])) (ho n K x hn) (by omega) l (hf n K x (hP x (by simp)) hn (by omega) l h)
theorem each_ans{α:Type}{f:NodM→α→Bool × NodM}(hf: ∀n x,Ans c n→Ans c (f n x).2): ∀(k:List α) (n:NodM),Ans c n→Ans c (eachB f k n).2
 | [],_,h=>h
 |x::k,n,h=>by
  unfold eachB;split
  · exact hf n x h
  · exact each_ans hf k _ (hf n x h)
theorem ans_then{r:Bool × NodM}{f:NodM→NodM}(h:Ans c r.2)(hf:Ans c r.2→Ans c (f r.2)):Ans c (andThen r f):=by unfold andThen;split;exact hf h;exact h
theorem ans_andB{r:Bool × NodM}{f:NodM→Bool × NodM}(h:Ans c r.2)(hf: ∀n,Ans c n→Ans c (f n).2):Ans c (andB r f).2:=by unfold andB;split;exact hf _ h;exact h
theorem modW_ans(h:Ans c n)(b:Int){f:WaitM→WaitM}(hf: ∀w,(f w).cl=w.cl∧(f w).n=w.n):Ans c (n.modW b f):=by
 unfold modW;split
 ·rename_i i _
  refine AnsL.sub (l:=n.waits) (n:={n with waits:=n.waits.modify i f}) ⟨h.out,h.cnt⟩ fun a b=>Nat.le_of_eq ?_
  have: ∀(l:List WaitM) (i:Nat),(l.modify i f).countP (IsW a b)=l.countP (IsW a b):=by
   intro l;induction l with
   |nil=>intro i;cases i<;>rfl
   |cons w l ih=>
    intro i;cases i with
    |zero=>
     have:IsW a b (f w)=IsW a b w:=by unfold IsW;rw[(hf w).1,(hf w).2]
     simp[List.modify,List.countP_cons,this]
    |succ i=>have:=ih i;simp[List.countP_cons,this]
  exact this n.waits i
 ·exact h
theorem puts_ans(h:Ans c n)(hn:n.ok K)(hK:K+8≤1000000):Ans c n.puts:=by
 have hw: ∀(l:List ItemM) (n:NodM),(l.foldl put n).waits=n.waits:=by
  intro l;induction l with
  |nil=>intro n;rfl
  |cons x l ih=>intro n;exact(ih _).trans rfl
 show AnsL c n.puts.waits n.puts;rw[show n.puts.waits=n.waits from hw _ _];exact fold_ans (f:=put) (P:=fun x=>x.ok) (fun n K x hx hn _ l h=>put_ans h hn hx) (fun n K x h=>h.put x) (n.s.l.take 8) (fun x hx=>hn.s.all x (List.mem_of_mem_take hx)) hn (by rw[List.length_take];omega) n.waits h
theorem note_ans(h:Ans c n):Ans c n.note.2:=by
 unfold note;split
 · exact h
 · exact ans_andB ⟨h.out,h.cnt⟩ fun n h=>⟨h.out,h.cnt⟩
theorem again_ans(h:Ans c n):Ans c n.again.2:=each_ans (fun n x h=>by
 unfold again1;split
 · exact h
 split
 · exact⟨h.out,h.cnt⟩
 · exact ans_andB ⟨h.out,h.cnt⟩ fun n h=>modW_ans h _ fun w=>⟨rfl,rfl⟩) _ _ h
theorem marks_ans(h:Ans c n):Ans c n.marks.2:=each_ans (fun n x h=>by unfold marks1;split;exact h;exact⟨h.out,h.cnt⟩) _ _ h
theorem given_ans{w:WaitM}(h:AnsL c (w::l) n)(hn:n.ok K){j:Nat}(hw:w.ok j){b:Bytes}(hb:b.length≤40):AnsL c l (n.given w b):=by
 unfold given;split
 · exact h.ans hn hw.cl hw.n hw.blk (by decide) hb
 · exact h.ans hn hw.cl hw.n hw.blk (by decide) (by decide)
theorem delW_ans{p:NodM→WaitM→Bool}{f:NodM→WaitM→NodM}(hf: ∀n K w,w.ok 1000000→n.ok K→ ∀l,AnsL c (w::l) n→AnsL c l (f n w))(ho: ∀n K w,w.ok 1000000→n.ok K→(f n w).ok (K+1)):
  ∀(l:List WaitM) {n:NodM} {K:Nat} (q:List WaitM),(∀w∈l,w.ok 1000000)→n.ok K→AnsL c (q++l) n→AnsL c (q++(delW p f l n).1) (delW p f l n).2
 | [],_,_,_,_,_,h=>h
 |w::l,n,K,q,hP,hn,h=>by
  have hP2: ∀w∈l,w.ok 1000000:=fun y hy=>hP y (by simp[hy])
  have hw:=hP w (by simp);unfold delW;split
  ·refine delW_ans hf ho l q hP2 (ho n K w hw hn) (hf n K w hw hn (q++l) (h.sub fun a b=>?_));simp only[List.countP_append,List.countP_cons];omega
  ·have:=delW_ans hf ho (p:=p) l (q++[w]) hP2 hn (by simpa using h);simpa using this
theorem waits_ok(hn:n.ok K)(hK:K≤1000000): ∀w∈n.waits,w.ok 1000000:=fun w hw=>(hn.w.all w hw).le hK
theorem settleF_ans{w:WaitM}(hw:w.ok 1000000)(hn:n.ok K)(h:AnsL c (w::l) n):AnsL c l (n.settleF w):=by
 have hg:=T4.get_n hn.t.a hn.t.b hn.t.c hn.t.d w.cl;have hm:N62 (max (n.done.get w.cl) w.n):=n62_max hg ⟨by have:=hw.n;omega,hw.n.2⟩;have g:NodM.ok {n with done:=n.done.set w.cl (max (n.done.get w.cl) w.n)} K:=⟨hn.a,hn.p,hn.n,nokT_set hn.t w.cl hm,hn.o,hn.w,hn.s,hn.out⟩;exact AnsL.ans (n:={n with done:=n.done.set w.cl (max (n.done.get w.cl) w.n)}) ⟨h.out,h.cnt⟩ g hw.cl hw.n hw.blk (by decide) (by decide)
theorem aget_ok(hn:n.ok K){b:Int}{x:EntM}(h:aget n.c.en b=some x):x.ok n.c.bl∧n.c.bl≤32:=⟨(ok_get hn.p.c h).1,hn.p.c.bl.2⟩
theorem reads_ans(h:Ans c n)(hn:n.ok K)(hK:K+16≤1000000):Ans c n.reads:=by
 have hl:=hn.w.n
 have: ∀(l:List WaitM) {K j:Nat} {a:List WaitM × NodM},(∀w∈l,w.ok K)→RdOk K j a→K+l.length≤1000000→AnsL c (a.1++l) a.2→AnsL c (l.foldl n.reads1 a).1 (l.foldl n.reads1 a).2:=by
  intro l;induction l with
  |nil=>intro K j a _ _ _ h;simpa using h
  |cons w l ih=>
   intro K j a hw r hK h;rw[List.length_cons]at hK;have hw1:=hw w (by simp);refine ih (fun y hy=>(hw y (by simp[hy])).le (show K≤K+1 by omega)) (reads1_ok (n:=n) r hw1) (by omega) ?_;have h2:AnsL c (w::(a.1++l)) a.2:=h.sub fun a b=>by simp only[List.countP_append,List.countP_cons];omega
   have h3:AnsL c (a.1++[w]++l) a.2:=by simpa using h
   unfold reads1;split
   ·split
    ·rename_i x hx
     exact given_ans h2 r.n hw1 (by have:=(aget_ok r.n hx).1.data;omega)
    ·have hlo:=r.n.n.loads;have g:=r.n.le (show K≤K+1 by omega);refine load_ans (n:={a.2 with loads:=a.2.loads+1}) (K:=K+1) ⟨h3.out,fun a b=>?_⟩ ⟨g.a,g.p,⟨g.n.left,g.n.epoch,g.n.mask,g.n.clock,g.n.born,g.n.change,by dsimp only;omega,g.n.role,g.n.want,g.n.resync,g.n.quiet⟩,g.t,g.o,g.w,g.s,g.out⟩ hw1.blk (by omega);have:=h3.cnt a b;simp only[List.countP_append,List.countP_cons,List.countP_nil]at this ⊢;exact this
   ·split
    ·exact h2.ans r.n hw1.cl hw1.n hw1.blk (by decide) (by decide)
    ·exact h3
 have r:=this n.waits (j:=0) (a:=([],n)) hn.w.all ⟨hn,Nat.le_refl _,fun w hw=>by cases hw⟩ (by omega) (by simpa using h);exact⟨r.out,r.cnt⟩
theorem settle_ans(h:Ans c n)(hn:n.ok K)(hK:K+50≤1000000):Ans c n.settle:=by
 have a1:Ans c n.settle1:=by
  have r:=delW_ans (p:=settleP) (f:=settleF) (c:=c) (fun n K w hw hn l h=>settleF_ans hw hn h) (fun n K w hw hn=>hn.settleF hw.n) n.waits [] (waits_ok hn (by omega)) hn h;exact⟨r.out,r.cnt⟩
 have a2:Ans c n.settle1.settle2:=by unfold settle2;split;exact⟨a1.out,a1.cnt⟩;exact a1
 have g:=hn.settle1.settle2;have a3:=reads_ans a2 g (by omega);have g3:=g.reads;unfold settle;generalize n.settle1.settle2.reads=k at*;unfold settle4;split
 ·exact a3
 split
 ·exact changes_ans a3 g3 (by omega) (by decide)
 ·exact ans_then (note_ans a3) fun h=>puts_ans h g3.note (by omega)
theorem recover_ans(h:Ans c n)(hn:n.ok K)(hK:K+50≤1000000)(t:T4):Ans c (n.recover t):=by
 unfold recover;refine ans_then (by unfold recover1;split;exact⟨h.out,h.cnt⟩;exact h) fun h=>?_
 have g:=hn.recover1 t;generalize (n.recover1 t).2=n at*;refine ans_then (by unfold recover2;split;exact marks_ans h;exact h) fun h=>?_
 have g:=g.recover2;generalize n.recover2.2=n at*;have g:n.recS.ok K:=g.setS (.new _ _);refine ans_then (again_ans (n:=n.recS) ⟨h.out,h.cnt⟩) fun h=>?_
 have g:=g.again;generalize n.recS.again.2=n at*;have g:=g.recDone;unfold recover3;split
 · exact ans_then (note_ans (n:=n.recDone) ⟨h.out,h.cnt⟩) fun h=>puts_ans (n:={n.recDone.note.2 with role:=2}) ⟨h.out,h.cnt⟩ (g.note.setRole (by decide)) (by omega)
 · exact ans_then ⟨h.out,h.cnt⟩ fun h=>⟨h.out,h.cnt⟩
theorem ready_ans(h:Ans c n)(hn:n.ok K)(hK:K+50≤1000000):Ans c n.ready:=by
 have g:n.readyQ.ok K:=hn.setQ (by decide) (zk K);exact ans_then (again_ans (n:=n.readyQ) ⟨h.out,h.cnt⟩) fun h=>ans_then (note_ans h) fun h=>puts_ans h g.again.note (by omega)
theorem tired_ans(h:Ans c n)(hn:n.ok K)(hK:K+50≤1000000):Ans c n.tired:=by
 have h:Ans c n.quiet0:=⟨h.out,h.cnt⟩;unfold tired tired1;split
 · exact changes_ans h hn.quiet0 (by omega) (own_in hn.quiet0)
 · exact settle_ans (n:=n.quiet0.tiredS) ⟨h.out,h.cnt⟩ hn.quiet0.tiredS hK
theorem find_in{l:List WaitM}{p:WaitM→Bool}{w:WaitM}(h:l.find? p=some w):w∈l:=List.mem_of_find?_eq_some h
theorem wcl{w:WaitM}(h:w.ok K):(-1≤w.cl∧w.cl≤3)∧N62 w.n:=⟨⟨by have:=h.cl;omega,h.cl.2⟩,by have:=h.n;omega,h.n.2⟩
theorem destage_ans(h:Ans c n)(hn:n.ok K)(hK:K+32≤1000000):Ans c n.destage:=by
 have hb:=hn.a.blocks
 have: ∀(l:List Nat) {K:Nat} {a:Int × NodM},a.2.ok K→Ans c a.2→Ans c (l.foldl destage1 a).2:=by
  intro l;induction l with
  |nil=>intro K a _ h;exact h
  |cons b l ih=>
   intro K a g h;refine ih (destage1_ok g b) ?_;unfold destage1;split
   ·exact h
   rename_i x hx
   have ho:=aget_ok g hx;split
   ·rename_i w hw
    dsimp only;split
    · exact store_ans h g ho.1 ho.2 (wcl (g.w.all w (find_in hw))).1 (wcl (g.w.all w (find_in hw))).2
    · exact h
   ·split
    · exact store_ans h g ho.1 ho.2 (by decide) n620
    · exact h
 exact this _ hn h
theorem regs_row{k:Nat}(h:1≤k∧k≤32)(b:Nat):(textR (regs k) b).length≤10:=by rw[textR_len];have:=regs_le h;unfold rowN;omega
theorem tock_ans(h:Ans c n)(hn:n.ok K)(hK:K+130≤1000000):Ans c n.tock:=by
 have hq:=hn.n.quiet
 have a1:Ans c n.tock1:=by
  unfold tock1;split
  ·have g:=hn.le (show K≤K+1 by omega);exact puts_ans (n:={n with quiet:=n.quiet+1}) (K:=K+1) ⟨h.out,h.cnt⟩ ⟨g.a,g.p,⟨g.n.left,g.n.epoch,g.n.mask,g.n.clock,g.n.born,g.n.change,g.n.loads,g.n.role,g.n.want,g.n.resync,by dsimp only;omega⟩,g.t,g.o,g.w,g.s,g.out⟩ (by omega)
  ·exact⟨h.out,h.cnt⟩
 have g1:=hn.tock1;unfold tock;generalize n.tock1=n at*
 have a2:Ans c n.tock2:=by
  unfold tock2;split
  ·exact tired_ans a1 g1 (by omega)
  split
  ·exact changes_ans a1 g1 (by omega) g1.n.want
  ·exact a1
 have g2:=g1.tock2;generalize n.tock2=n at*;unfold tock4;split
 ·exact a2
 have g3:=g2.tock3
 have a3:Ans c n.tock3:=by
  unfold tock3;split
  ·have gl:=g2.s.last;have ga:=g2.s.acked;have e:n.s.last=n.s.acked+n.s.l.length:=rfl;unfold N62 at ga;have hp:=peer_ne g2;exact AnsL.send (n:=n.askedQ) ⟨a2.out,a2.cnt⟩ (mayMk (by decide) g2.n.epoch ⟨by omega,gl⟩ (by decide) (by decide) (by decide) (by decide) (by decide) (regs_row g2.p.dr.n _) g2.t.a g2.t.b g2.t.c g2.t.d) (by decide:(7:Int)≠15) hp.1 hp.2
  ·exact a2
 have g4:=g3.destage;have a4:=destage_ans a3 g3 (by omega);generalize n.tock3.destage=n at*;have hl:=g4.w.n
 have hw: ∀(l:List WaitM) (n:NodM),(l.foldl tockL n).waits=n.waits:=by
  intro l;induction l with
  |nil=>intro n;rfl
  |cons x l ih=>intro n;refine(ih _).trans ?_;unfold tockL;split<;>rfl
 show AnsL c n.tock5.waits n.tock5;rw[show n.tock5.waits=n.waits from hw _ _];refine fold_ans (f:=tockL) (P:=fun w=>w.ok 1000000) (fun n K w hw hn _ l h=>?_) (fun n K w h=>h.tockL w) n.waits (waits_ok g4 (by omega)) g4 (by omega) n.waits a4;unfold tockL;split
 ·exact load_ans h hn hw.blk hw.load
 ·exact h
theorem clear_ans(h: ∀a b,n.waits.countP (IsW a b)≤c a b):Ans c n.clear:=⟨fun y hy=>(by cases hy),fun a b=>by have:=h a b;simpa[clear]using this⟩
theorem tick_ans(h: ∀a b,n.waits.countP (IsW a b)≤c a b)(hn:n.ok K)(hK:K+140≤1000000)(hl:n.lost=false):Ans c n.tick:=by
 have a1:=clear_ans h;unfold tick;split
 · exact a1
 have g:=hn.clear.tick0;have a2:Ans c n.clear.tick0:=⟨a1.out,a1.cnt⟩;unfold tick1;rw[if_neg (by rw[show n.clear.tick0.lost=false from hl];exact Bool.false_ne_true)];have hid:=g.a.id;generalize n.clear.tick0=n at*;have a3:Ans c (n.send 2 n.askM):=a2.send (askM_may g (by omega)) (by show(1:Int)≠15;decide) (by omega) (by decide);have g3:=g.send 2 n.askM;generalize n.send 2 n.askM=n at*;unfold tick2;split
 · exact load_ans a3 g3 (by decide) (by decide)
 split
 · exact tock_ans a3 g3 (by omega)
 · exact a3
theorem loaded_ans(h:Ans c n)(hn:n.ok K)(hK:K≤1000000){m:MsgM}(hm:m.ok):Ans c (n.loaded m):=by
 have r:=delW_ans (p:=loadedP m) (f:=fun n w=>n.given w m.data) (c:=c) (fun n K w hw hn l h=>given_ans h hn hw hm.data) (fun n K w _ hn=>hn.given w m.data) n.waits [] (waits_ok hn hK) hn h;exact⟨r.out,r.cnt⟩
theorem stored_ans(h:Ans c n)(hn:n.ok K)(hK:K+70≤1000000){m:MsgM}(hm:m.ok):Ans c (n.stored m):=by
 have a1:Ans c (n.stored1 m):=by
  unfold stored1;split
  ·split
   · exact modW_ans h _ fun w=>⟨rfl,rfl⟩
   · exact h
  ·exact h
 have g:=(hn.stored1 m).settle;have a2:=settle_ans a1 (hn.stored1 m) (by omega);unfold stored;generalize (n.stored1 m).settle=n at*;unfold stored2;split
 ·exact a2
 split
 ·exact a2
 ·refine ans_then ⟨a2.out,a2.cnt⟩ fun h=>?_
  have g2:=g.cOk (clean_done g.p.c m.block m.epoch m.seq);generalize (n.cOk (n.c.clean n.d m.block m.epoch m.seq)).2=n at*;refine reads_ans ?_ (g2.cleanM m) (by omega)
  unfold cleanM;split
  ·exact h.send (mayMk (by decide) hm.epoch hm.seq (by decide) hm.block (by decide) (by decide) (by decide) (by decide) n620 n620 n620 n620) (by decide:(9:Int)≠15) (peer_ne g2).1 (peer_ne g2).2
  ·exact h
theorem demote_ans(h:Ans c n):Ans c n.demote:=⟨h.out,fun a b=>by have:=h.cnt a b;show 0+n.out.countP _≤_;omega⟩
theorem backed_ans(h:Ans c n)(hn:n.ok K)(hK:K+70≤1000000){m:MsgM}(hm:m.ok):Ans c (n.backed m):=by
 unfold backed;split
 · exact h
 split
 · exact demote_ans h
 split
 · exact h
 split
 · exact recover_ans h hn (by omega) _
 split
 · exact loaded_ans h hn (by omega) hm
 split
 · exact stored_ans h hn hK hm
 · exact h
theorem twice2_ans(h:Ans c n)(hn:n.ok K){w:WaitM}(hw:w.ok K){x:EntM}{m:Nat}(hx:x.ok m)(hm:m≤32):Ans c (n.twice2 w x):=by
 unfold twice2;split
 · exact store_ans h hn hx hm (wcl hw).1 (wcl hw).2
 · exact h
/-- One more that waits. -/
theorem add_ans{w w':WaitM}(h:AnsL c (w::n.waits) n)(hw:w'.cl=w.cl∧w'.n=w.n):Ans c {n with waits:=n.waits++[w']}:=
 ⟨h.out,fun a b=>by
  have:=h.cnt a b;have e:IsW a b w'=IsW a b w:=by unfold IsW;rw[hw.1,hw.2]
  show(n.waits++[w']).countP _+n.out.countP _≤_;rw[List.countP_append,List.countP_singleton,e];rw[List.countP_cons]at this;omega⟩
theorem cons_ans{w:WaitM}(h:AnsL c (w::n.waits) n):Ans c n:=h.sub fun a b=>by rw[List.countP_cons];omega
theorem twice_ans{w:WaitM}(h:AnsL c (w::n.waits) n)(hn:n.ok K)(hw:w.ok K):Ans c (n.twice w):=by
 unfold twice;split
 ·exact h.ans hn hw.cl hw.n hw.blk (by decide) (by decide)
 rename_i x hx
 have hxo:=all_ok hn x (List.mem_of_find?_eq_some hx);have hb:=hxo.blk;have h32:=hn.p.c.bl;split
 ·exact h.ans hn hw.cl hw.n hw.blk (by decide) (by decide)
 ·rename_i hc
  simp only[not_or]at hc;have hw2:WaitM.ok K {w with op:=2,blk:=x.blk,seq:=x.vs}:=⟨hw.cl,hw.n,(by decide:(0:Int)≤2∧(2:Int)≤4),⟨by dsimp only;omega,by dsimp only;omega⟩,⟨by have:=hxo.vs;dsimp only;omega,hxo.vs.2⟩,hw.load⟩;exact twice2_ans (add_ans (w':={w with op:=2,blk:=x.blk,seq:=x.vs}) h ⟨rfl,rfl⟩) (hn.addW (w:={w with op:=2,blk:=x.blk,seq:=x.vs}) hw2 (by omega)) hw2 hxo hn.p.c.bl.2
theorem write_ans{w:WaitM}(h:AnsL c (w::n.waits) n)(hn:n.ok K)(hK:K+20≤1000000)(hw:w.ok K)(hwb:0≤w.blk)(hl:n.waits.length<16){data:Bytes}(hd:data.length=8):Ans c (n.write w data):=by
 unfold write;split
 ·exact h.ans hn hw.cl hw.n hw.blk (by decide) (by decide)
 rename_i hlast
 obtain⟨g1,g2⟩:=hn.write1 w;have g3:(n.write1 w).2.s=n.s:=by unfold write1;split<;>rfl
 have h1:AnsL c (w::(n.write1 w).2.waits) (n.write1 w).2:=by rw[g2];unfold write1;split;exact⟨h.out,h.cnt⟩;exact h
 have hl1:(n.write1 w).2.waits.length<16:=by rw[g2];exact hl
 have hlast:(n.write1 w).2.s.last<4611686018427387904:=by rw[g3];omega
 have hX:((n.write1 w).2.writeX w data)=(n.write1 w).2.writeX w data:=rfl;unfold andThen;split;rotate_left
 ·exact cons_ans h1
 generalize (n.write1 w).2=n at*;have hx:(itOf (n.writeX w data)).ok:=⟨n620,hw.blk,by show data.length≤8;omega,(wcl hw).1,(wcl hw).2⟩;show Ans c (n.write2 w (n.writeX w data));unfold write2;split
 ·exact AnsL.ans (n:=n.cDid _) ⟨h1.out,h1.cnt⟩ (g1.cDid (put_done' g1.p.c _)) hw.cl hw.n hw.blk (by decide) (by decide)
 have g4:=g1.cOk (put_done' g1.p.c (n.writeX w data));have h4:AnsL c (w::(n.cOk (n.c.put n.d (n.writeX w data))).2.waits) (n.cOk (n.c.put n.d (n.writeX w data))).2:=⟨h1.out,h1.cnt⟩;unfold andThen;split;rotate_left
 ·exact cons_ans h4
 dsimp only;split;rotate_left
 ·exact cons_ans (n:=(n.cOk (n.c.put n.d (n.writeX w data))).2.sync.2) ⟨h4.out,h4.cnt⟩
 have g5:=g4.sync;have h5:AnsL c (w::(n.cOk (n.c.put n.d (n.writeX w data))).2.sync.2.waits) (n.cOk (n.c.put n.d (n.writeX w data))).2.sync.2:=⟨h4.out,h4.cnt⟩;have hl5:(n.cOk (n.c.put n.d (n.writeX w data))).2.sync.2.waits.length<16:=hl1;have hep:=g1.n.epoch;generalize hx1:n.writeX w data=x at*;have hxe:x.vs=n.s.last+1∧x.data=data∧x.cl=w.cl∧x.n=w.n∧x.blk=w.blk:=by rw[←hx1];exact⟨rfl,rfl,rfl,rfl,rfl⟩
 have hlow:0≤n.s.last:=by have:=g1.s.acked.1;have e:n.s.last=n.s.acked+n.s.l.length:=rfl;omega
 generalize (n.cOk (n.c.put n.d x)).2.sync.2=k at*;have hq:=g5.s.add_seq (itOf x);have hsx:=g5.s.add hx;unfold write3
 have g6:(k.writeS {w with seq:=(k.s.add (itOf x)).1.1} (itOf x)).ok (K+1):=
  ((g5.le (show K≤K+1 by omega)).setS hsx).addW (w:={w with seq:=(k.s.add (itOf x)).1.1}) ⟨hw.cl,hw.n,hw.op,hw.blk,hq,by have:=hw.load;dsimp only;omega⟩ hl5
 have a6:Ans c (k.writeS {w with seq:=(k.s.add (itOf x)).1.1} (itOf x)):=by
  have:=add_ans (w':={w with seq:=(k.s.add (itOf x)).1.1}) h5 ⟨rfl,rfl⟩;exact⟨this.out,this.cnt⟩
 generalize k.writeS {w with seq:=(k.s.add (itOf x)).1.1} (itOf x)=j at*;have hxp:ItemM.ok {itOf x with seq:=(k.s.add (itOf x)).1.1}:=⟨hq,hx.blk,hx.data,hx.cl,hx.n⟩
 have r:Ans c (j.writeP {itOf x with seq:=(k.s.add (itOf x)).1.1})∧(j.writeP {itOf x with seq:=(k.s.add (itOf x)).1.1}).ok (K+2):=by
  unfold writeP;split
  · exact⟨put_ans a6 g6 hxp,g6.put _⟩
  · exact⟨⟨a6.out,a6.cnt⟩,(g6.setS (NokS.ack g6.s _)).le (by omega)⟩
 unfold twice2;split
 ·have hv:=hxe.1;have hb:=hw.blk;refine r.1.send (mayMk (by decide) r.2.n.epoch ⟨by omega,by omega⟩ ?_ ?_ (wcl hw).1 (by decide) ?_ (by decide) r.2.t.a r.2.t.b r.2.t.c r.2.t.d) (by decide:(10:Int)≠15) (by have:=r.2.a.id;omega) (by decide)
  · have:=hw.n;dsimp only;omega
  · rw[hxe.2.2.2.2];exact hb
  · rw[hxe.2.1];omega
 ·exact r.1
theorem refused_e(m:MsgM):0≤n.refused m∧n.refused m≤31:=by
 unfold refused;split
 · decide
 split
 · decide
 split
 · decide
 split
 · decide
 split<;>decide
theorem calledE_e{w:WaitM}{m:MsgM}{e:Int}(h:n.calledE w m=some e):e= -1∨(0≤e∧e≤31):=by
 have:=refused_e (n:=n) m;unfold calledE at h;dsimp only at h;split at h
 ·split at h
  · cases h
  split at h
  · cases h;exact .inl rfl
  split at h
  · cases h;exact .inr (by decide)
  · cases h;exact .inr (by decide)
 ·cases h;exact .inr this
theorem refused_blk{m:MsgM}(hr:n.refused m=0)(h4: ¬m.seq=4):0≤m.block:=by
 unfold refused at hr;split at hr
 · cases hr
 split at hr
 · cases hr
 split at hr
 · cases hr
 split at hr
 · cases hr
 rename_i h
 by_cases c:m.block<0
 · exact absurd ⟨h4,.inl c⟩ h
 · omega
theorem called_ans{frm:Int}{m:MsgM}(hf:4≤frm∧frm≤7)(h:AnsL c (callW frm m::n.waits) n)(hn:n.ok K)(hK:K+40≤1000000)(hm:m.ok):Ans c (n.called frm m):=by
 unfold called;split
 ·exact cons_ans h
 rename_i hc
 simp only[not_or]at hc;have hw:(callW frm m).ok K:=⟨⟨by show 0≤frm- 4;omega,by show frm- 4≤3;omega⟩,⟨by show 1≤m.n;omega,hm.n.2⟩,⟨by have:=hm.seq;show 0≤min m.seq 4;omega,by show min m.seq 4≤4;omega⟩,hm.block,n620,zk K⟩;split
 ·exact cons_ans h
 rename_i e he
 have h31:=calledE_e he;split
 ·exact twice_ans h hn hw
 rename_i hne
 have h31:=h31.resolve_left hne;unfold called1;split
 ·exact h.ans hn hw.cl hw.n hw.blk (by decide) (by decide)
 rename_i h16
 split
 ·exact h.ans hn hw.cl hw.n hw.blk h31 (by decide)
 rename_i h0
 have e0:e=0:=Classical.not_not.1 h0;subst e0;have hr:=calledE_zero he;obtain⟨r1,r2,r3⟩:=refused_zero hr;have hl:n.waits.length<16:=by omega
 unfold called2;split
 ·exact reads_ans (add_ans h ⟨rfl,rfl⟩) (hn.addW hw hl) (by omega)
 rename_i o1
 split
 ·have ha:=hn.s.acked;have hle:=hn.s.last;have e:n.s.last=n.s.acked+n.s.l.length:=rfl;exact reads_ans (n:=n.addW {callW frm m with seq:=n.s.last}) (add_ans h ⟨rfl,rfl⟩) (hn.addW (w:={callW frm m with seq:=n.s.last}) ⟨hw.cl,hw.n,hw.op,hw.blk,⟨by unfold N62 at ha;dsimp only;omega,hle⟩,hw.load⟩ hl) (by omega)
 rename_i o4
 have hb:0≤(callW frm m).blk:=refused_blk hr (fun h=>o4 (by show min m.seq 4=4;omega));split
 ·exact write_ans (w:={callW frm m with op:=2}) ⟨h.out,h.cnt⟩ hn (by omega) ⟨hw.cl,hw.n,(by decide:(0:Int)≤2∧(2:Int)≤4),hw.blk,hw.seq,hw.load⟩ hb hl rfl
 ·rename_i o3
  have o1: ¬min m.seq 4=1:=o1;have o3: ¬min m.seq 4=3:=o3;have o4: ¬min m.seq 4=4:=o4;exact write_ans h hn (by omega) hw hb hl (by have:=r3 (by omega);omega)
theorem stores_ans(h:Ans c n)(hn:n.ok K)(hK:K+16≤1000000):Ans c n.stores:=by
 have hl:=hn.w.n
 have hw: ∀(l:List WaitM) (n:NodM),(l.foldl stores1 n).waits=n.waits:=by
  intro l;induction l with
  |nil=>intro n;rfl
  |cons x l ih=>
   intro n;refine(ih _).trans ?_;unfold stores1;split
   · rfl
   · split<;>rfl
 show AnsL c n.stores.waits n.stores;rw[show n.stores.waits=n.waits from hw _ _];refine fold_ans (f:=stores1) (P:=fun w=>w.ok 1000000) (fun n K w hw hn _ l h=>?_) (fun n K w h=>h.stores1 w) n.waits (waits_ok hn (by omega)) hn (by omega) n.waits h;unfold stores1;split
 ·exact h
 rename_i x hx
 have ho:=aget_ok hn hx;split
 ·exact store_ans h hn ho.1 ho.2 (wcl hw).1 (wcl hw).2
 ·exact h
theorem changed_ans(h:Ans c n)(hn:n.ok K)(hK:K+66≤1000000){mk:Int}(hm:N62 mk):Ans c (n.changed mk):=by
 have h:Ans c (n.changedM mk):=⟨h.out,h.cnt⟩;have g:=hn.changedM hm;unfold changed changed1;generalize n.changedM mk=n at*;split
 ·exact ans_then ⟨h.out,h.cnt⟩ fun h=>settle_ans h g.clearD (by omega)
 split
 ·refine ans_then (marks_ans h) fun h=>?_
  have g2:n.marks.2.aloneS.ok K:=g.marks.setS (.new _ _);have h2:Ans c n.marks.2.aloneS:=⟨h.out,h.cnt⟩;have h3:Ans c n.marks.2.aloneS.alones1:=by unfold alones1;split;exact⟨h2.out,h2.cnt⟩;exact h2
  exact settle_ans (stores_ans h3 g2.alones1 (by omega)) g2.alones1.stores (by omega)
 ·exact demote_ans h
theorem adopt_ans(h:Ans c n)(e:Int):Ans c (n.adopt e).2:=by
 unfold adopt;split
 ·exact h
 ·have:=demote_ans h;exact ans_andB ⟨this.out,this.cnt⟩ fun n h=>⟨h.out,h.cnt⟩
theorem granted_ans(h:Ans c n)(hn:n.ok K){m:MsgM}(hm:m.ok):Ans c (n.granted m):=by
 unfold granted;split
 ·split
  · exact demote_ans h
  · exact h
 unfold granted1;split
 ·exact h
 split
 ·refine ans_then (adopt_ans h _) fun h=>?_
  have g:=hn.adopt hm.epoch;generalize (n.adopt m.epoch).2=n at*;have:=load_ans (n:={n with role:=1,mask:=m.seq,change:=0}) (l:=n.waits) (b:= -1) (q:=0) ⟨h.out,h.cnt⟩ (K:=K) ⟨g.a,g.p,⟨g.n.left,g.n.epoch,hm.seq,g.n.clock,g.n.born,zk K,g.n.loads,(by decide:(0:Int)≤1∧(1:Int)≤3),g.n.want,g.n.resync,g.n.quiet⟩,g.t,g.o,g.w,g.s,g.out⟩ (by decide) (by decide);exact⟨this.out,this.cnt⟩
 split
 ·exact h
 ·exact⟨h.out,h.cnt⟩
theorem heard_ans(h:Ans c n)(hn:n.ok K)(hK:K+66≤1000000)(hl:n.lost=false){m:MsgM}(hm:m.ok):Ans c (n.heard m):=by
 unfold heard;rw[if_neg (by rw[hl];exact Bool.false_ne_true)];split
 · exact granted_ans h hn hm
 split
 · exact h
 split
 · exact demote_ans h
 split
 · exact changed_ans h hn hK hm.seq
 · exact h
theorem lay_ans(h:Ans c n)(m:MsgM):Ans c (n.lay m).2:=by
 unfold lay;refine ans_andB (by unfold lay1;split;exact⟨h.out,h.cnt⟩;exact h) fun n h=>?_
 split
 ·exact⟨h.out,h.cnt⟩
 ·refine ans_andB (by unfold lay2;split;exact⟨h.out,h.cnt⟩;exact h) fun n h=>?_
  unfold lay3;split<;>exact⟨h.out,h.cnt⟩
theorem met_ans(h:Ans c n)(hn:n.ok K)(hK:K+70≤1000000){m:MsgM}(hm:m.ok):Ans c (n.met m):=by
 unfold met;split
 ·split
  ·exact h
  refine ans_then (adopt_ans h _) fun h=>?_
  have g:=hn.adopt hm.epoch;generalize (n.adopt m.epoch).2=n at*
  have had: ∀k:NodM,k.ok K→Ans c k→Ans c (k.hadM m):=fun k g h=>
   h.send (mayMk (by decide) hm.epoch g.p.c.k.s (by decide) (by decide) (by decide) (by decide) (by decide) (by decide) n620 n620 n620 n620) (by decide:(6:Int)≠15) (peer_ne g).1 (peer_ne g).2
  have hre: ∀k:NodM,k.ok K→Ans c k→Ans c (k.readyM m):=fun k g h=>
   h.send (mayMk (by decide) hm.epoch hm.seq (by decide) (by decide) (by decide) (by decide) (by decide) (by decide) n620 n620 n620 n620) (by decide:(8:Int)≠15) (peer_ne g).1 (peer_ne g).2
  unfold met1;split
  ·exact h
  split
  ·unfold taken;split
   · exact h
   split
   · exact ans_then (ans_andB (lay_ans h m) fun n h=>⟨h.out,h.cnt⟩) fun h=>had _ (ok_andB (c:=0) (g.lay m) fun h=>h.sync) h
   · exact had _ g h
  ·unfold begun;split
   · exact h
   split
   · exact hre _ g h
   refine ans_then ?_ fun h=>hre _ (g.cleared m) h
   unfold cleared;split
   · exact h
   · exact ans_andB (each_ans (fun n x h=>by unfold cleared1;split;exact⟨h.out,h.cnt⟩;exact h) _ _ h) fun n h=>ans_andB ⟨h.out,h.cnt⟩ fun n h=>⟨h.out,h.cnt⟩
 split
 ·unfold metH;split
  ·have g:=hn.metA m.seq;exact settle_ans (stores_ans (n:=n.metA m.seq) ⟨h.out,h.cnt⟩ g (by omega)) g.stores (by omega)
  ·exact h
 split
 ·unfold metR;split
  ·exact ready_ans h hn (by omega)
  ·exact h
 split
 ·unfold metC;split
  ·split<;>exact⟨h.out,h.cnt⟩
  ·exact h
 ·exact h
theorem _root_.Go.Sl.beginN_waits{x:ShapeM}{n:NodM}(h:beginN x=some n):n.waits=[]:=by
 have hf: ∀n:NodM,(nodFact n).2.waits=n.waits:=fun n=>by
  unfold nodFact;split
  ·rfl
  ·unfold boot;dsimp only;split
   · rfl
   · split<;>rfl
 unfold beginN at h;split at h
 ·cases h
 split at h
 ·cases h
 split at h
 ·cases h
 cases h;unfold nodOpen;split
 ·rfl
 split
 ·rfl
 split
 ·rfl
 split
 ·rfl
 ·exact hf _
/-- What an act calls for. -/
def calls(i:Int)(a:ActN)(x y:Int):Nat:=
 if a.kind=0∧4≤a.fr∧a.fr<8∧a.to=i∧(decMsg (letN a).body).2=0∧(decMsg (letN a).body).1.kind=14∧a.fr=x∧(decMsg (letN a).body).1.n=y then 1 else 0
theorem calls_no{i:Int}{a:ActN}(h: ¬(a.kind=0∧4≤a.fr∧a.fr<8∧a.to=i∧(decMsg (letN a).body).2=0∧(decMsg (letN a).body).1.kind=14))(x y:Int):calls i a x y=0:=
 if_neg fun q=>h ⟨q.1,q.2.1,q.2.2.1,q.2.2.2.1,q.2.2.2.2.1,q.2.2.2.2.2.1⟩
theorem calls_yes{i:Int}{a:ActN}(h:a.kind=0∧4≤a.fr∧a.fr<8∧a.to=i∧(decMsg (letN a).body).2=0∧(decMsg (letN a).body).1.kind=14)(x y:Int):calls i a x y=if((x,y):Int × Int)=(a.fr,(decMsg (letN a).body).1.n)then 1 else 0:=by
 unfold calls
 by_cases q:a.fr=x∧(decMsg (letN a).body).1.n=y
 · rw[if_pos ⟨h.1,h.2.1,h.2.2.1,h.2.2.2.1,h.2.2.2.2.1,h.2.2.2.2.2,q⟩,if_pos (by rw[q.1,q.2])]
 · rw[if_neg (fun z=>q z.2.2.2.2.2.2),if_neg (fun z=>q (by simp only[Prod.mk.injEq]at z;exact⟨z.1.symm,z.2.symm⟩))]
theorem calls_le(i:Int)(a:ActN)(x y:Int):calls i a x y≤1:=by unfold calls;split<;>omega
/-- An act's answers, and what waits then, aren't more than what waited, and what it called for. -/
theorem step_ans(h: ∀x y,n.waits.countP (IsW x y)≤c x y)(hn:n.ok K)(hK:K+140≤1000000)(hl:n.lost=false)(a:ActN)(ha:a.kind=0∨a.kind=1):Ans (fun x y=>c x y+calls n.id a x y) (n.step a):=by
 have h': ∀x y,n.waits.countP (IsW x y)≤c x y+calls n.id a x y:=fun x y=>Nat.le_trans (h x y) (Nat.le_add_right _ _)
 have a1:=clear_ans h';unfold step;split;rotate_left
 ·rename_i h0
  rw[if_pos (ha.resolve_left h0)];exact tick_ans h' hn hK hl
 rename_i h0
 unfold take take1;split
 ·exact a1
 split
 ·exact a1
 split
 ·exact a1
 rename_i h1 h2 h3
 have hm:=decMsg_ok (s:=(letN a).body) (by simpa using h3);have hd:(decMsg (letN a).body).2=0:=by simpa using h3
 simp only[not_or]at h2;split
 ·exact a1
 have hc:=hn.clear;have hto:a.to=n.id:=Classical.not_not.1 h2.1
 have h6:Ans (fun x y=>c x y+calls n.id a x y) (n.clear.hear (letN a).frm (decMsg (letN a).body).1):=by
  have hid:=hn.a.id;have e1:(letN a).frm=a.fr:=rfl;unfold hear;split
  ·exact heard_ans a1 hc (by omega) hl hm
  split
  ·exact backed_ans a1 hc (by omega) hm
  split
  ·exact met_ans a1 hc (by omega) hm
  ·rename_i c1 c2 c3
   have c1: ¬a.fr=2:=c1;have c2: ¬a.fr=3:=c2;have c3: ¬a.fr=1-n.id:=c3;have c4: ¬a.fr=n.id:=h2.2.2.2;have c5: ¬a.fr<0:=h2.2.1;have c6: ¬8≤a.fr:=h2.2.2.1;have hfr:4≤a.fr∧a.fr≤7:=by omega
   by_cases hk:(decMsg (letN a).body).1.kind=14
   ·refine called_ans hfr ⟨a1.out,fun x y=>?_⟩ hc (by omega) hm;show(callW a.fr _::n.waits).countP _+0≤_;have:=h x y;rw[List.countP_cons]
    have e:(if IsW x y (callW a.fr (decMsg (letN a).body).1)=true then 1 else 0)≤calls n.id a x y:=by
     unfold calls
     by_cases q:a.fr=x∧(decMsg (letN a).body).1.n=y
     ·rw[if_pos (show _∧_ from⟨h0,hfr.1,by omega,hto,hd,hk,q⟩)];split<;>omega
     ·rw[if_neg]
      ·exact Nat.zero_le _
      ·intro hx;refine q ?_;unfold IsW callW at hx;simp only[Bool.and_eq_true,decide_eq_true_eq]at hx;exact⟨by omega,hx.2⟩
    omega
   ·unfold called;rw[if_pos (.inl hk)];exact a1
 unfold hush;split
 ·exact⟨fun y hy=>(by cases hy),fun x y=>by have:=h6.cnt x y;show(n.clear.hear (letN a).frm (decMsg (letN a).body).1).waits.countP (IsW x y)+0≤c x y+calls n.id a x y;omega⟩
 ·exact h6
theorem told_ans(h: ∀x y,n.waits.countP (IsW x y)≤c x y)(hn:n.ok K)(hK:K+140≤1000000)(hl:n.lost=false)(a:ActN):
  (∀y∈n.told a,LetOk n.id y)∧ ∀x y,(n.step a).waits.countP (IsW x y)+(n.told a).countP (IsA x y)≤c x y+calls n.id a x y:=by
 by_cases ha:a.kind=0∨a.kind=1
 ·have r:=step_ans h hn hK hl a ha;unfold told;rw[if_pos ha,←show(n.step a).id=n.id from congrArg Prod.fst (step_who hl a)];refine⟨r.out,fun x y=>?_⟩;rw[show(n.step a).id=n.id from congrArg Prod.fst (step_who hl a)];exact r.cnt x y
 ·unfold told step;rw[if_neg ha,if_neg (fun q=>ha (.inl q)),if_neg (fun q=>ha (.inr q))];exact⟨fun y hy=>(by cases hy),fun x y=>Nat.le_trans (h x y) (Nat.le_add_right _ _)⟩
end NodM
end Go.Sl