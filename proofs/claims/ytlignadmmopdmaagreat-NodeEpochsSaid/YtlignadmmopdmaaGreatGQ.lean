/- A part of the proof. -/
import Derived.Test.YtlignadmmopdmaaGreatL2
import Derived.Test.YtlignadmmopdmaaGreatGL
set_option linter.unusedVariables false
set_option linter.unusedSimpArgs false
set_option linter.constructorNameAsVariable false
namespace Go.Sl
def az.k4(D:az)(j:Int):Bytes:=(D.l[j.toNat]?).getD g8
structure o3(D:az)(N:Nat):Prop where
 ok:D.ok
 len:D.l.length=N
 live:D.dead=false
theorem o3.has{D:az}{N:Nat}(h:o3 D N){i:Int}(h0:0≤i)(h1:i<N):D.has i=0:=by
 unfold az.has;rw[if_neg (by rw[h.live];decide),if_neg (by rw[h.len];omega)]
theorem o3.te{D:az}{N:Nat}(h:Live D N):o3 D N:=⟨h.ok,h.len,h.live⟩
theorem o3.WX{D:az}{N:Nat}(h:Up D N):o3 D N:=⟨h.ok,h.len,h.live⟩
theorem VH{D:az}{j:Int}(h:ix D.es j=none):D.sec j=D.k4 j:=by unfold az.sec az.k4;rw[h];rfl
theorem lz{D:az}(h:D.es=[])(j:Int):D.sec j=D.k4 j:=VH (by rw[h];rfl)
theorem vj{D:az}{j:Int}(h0:0≤j){A:Bytes}: ∀(is:List Int) (ks:dq) (ls:List Bytes),(∀i∈is,0≤i)→(∀x∈ks,x.1≠2)→(∀s,ls[j.toNat]? =some s→s=A∨s=D.sec j)→ ∀s,(fb D is ks ls)[j.toNat]? =some s→s=A∨s=D.sec j
 | [],ks,ls,_,_,h,s,hs=>by rw[gD]at hs;exact h s hs
 |i::is,[],ls,_,_,h,s,hs=>by rw[kz]at hs;exact h s hs
 |i::is,x::ks,ls,hi,hk,h,s,hs=>by
  unfold fb at hs;refine vj h0 is ks _ (fun y hy=>hi y (by simp[hy])) (fun y hy=>hk y (by simp[hy])) (fun t ht=>?_) s hs;have HA:=hi i (by simp)
  by_cases e:i=j
  ·subst e
   by_cases hl:i.toNat<ls.length
   ·rw[List.getElem?_set_self hl]at ht;simp only[Option.some.injEq]at ht;subst ht;unfold pI;split
    ·exact .inr rfl
    ·rw[if_neg (hk x (by simp))];exact h _ (by rw[List.getElem?_eq_getElem hl];rfl)
   ·rw[List.getElem?_eq_none (by simp;omega)]at ht;cases ht
  ·rw[List.getElem?_set_ne (by omega)]at ht;exact h t ht
theorem ri{D:az}{N:Nat}(h:D.ok)(hl:D.l.length=N){ks:dq}(hk: ∀x∈ks,x.1≠2){j:Int}(h0:0≤j)(h1:j<N):(D.bD ks).sec j=D.k4 j∨(D.bD ks).sec j=D.sec j:=by
 rw[yZ (DL D ks)];unfold az.bD;dsimp only;have hlen:j.toNat<(fb D D.pending ks D.l).length:=by rw[km];omega
 rw[List.getElem?_eq_getElem hlen,Option.getD_some];refine vj h0 (A:=D.k4 j) D.pending ks D.l (fun i hi=>?_) hk (fun s hs=> .inl ?_) _ (List.getElem?_eq_getElem hlen)
 ·obtain⟨y,hy,e⟩:=List.mem_map.1 ((List.mergeSort_perm _ _).mem_iff.1 hi);have:=(h.keys y hy).1;omega
 ·unfold az.k4;rw[hs];rfl
theorem GV{D:az}{N:Nat}(h:D.ok)(hl:D.l.length=N)(ks:dq):Live (D.bD ks) N:=by
 have hU:=sv h ks;rw[hl]at hU;exact⟨hU.ok,hU.len,hU.live,rfl⟩
structure Twin(D' D:az):Prop where
 ok:D'.ok
 l:D'.l=D.l
 es:D'.es=D.es
theorem Twin.sec{D' D:az}(h:Twin D' D)(j:Int):D'.sec j=D.sec j:=by unfold az.sec;rw[h.l,h.es]
theorem Twin.k4{D' D:az}(h:Twin D' D)(j:Int):D'.k4 j=D.k4 j:=by unfold az.k4;rw[h.l]
theorem o3.write{D:az}{N:Nat}(h:o3 D N){i:Int}{bs:Bytes}(h0:0≤i)(h1:i<N)(hb:bs.length≤144):
  ((D.write i bs).1=0∧o3 (D.write i bs).2 N∧(∀j,(D.write i bs).2.k4 j=D.k4 j)∧(D.write i bs).2.sec i=pad bs∧ ∀j,j≠i→(D.write i bs).2.sec j=D.sec j)∨
  ((D.write i bs).1=30∧(D.write i bs).2.dead=true∧Twin (D.write i bs).2 D):=by
 have cq:=az.jN h.ok i bs;have hh:=h.has h0 h1
 by_cases hf:D.dA=0
 ·have e:D.write i bs=(30,{D with dead:=true}):=by
   unfold az.write;rw[if_neg (by simpa using hh),if_neg (by omega),sa hf];rfl
  rw[e]at cq ⊢;exact .inr ⟨rfl,rfl,cq,rfl,rfl⟩
 ·obtain⟨f,OR⟩:=sb hf
  have e:D.write i bs=(0,{D with dA:=f,es:=xD D.es D.wN i (pad bs),wN:=GZ D.es D.wN i}):=by
   unfold az.write;rw[if_neg (by simpa using hh),if_neg (by omega),OR,if_neg (by simp)]
  rw[e]at cq ⊢;refine .inl ⟨rfl,⟨cq,h.len,h.live⟩,fun _=>rfl,?_,fun j hj=>?_⟩
  ·unfold az.sec;dsimp only;rw[po];rfl
  ·unfold az.sec;dsimp only;rw[ja _ _ (Ne.symm hj)]
theorem o3.aJ{D:az}{N:Nat}(h:o3 D N):
  (D.aJ.1=0∧Live D.aJ.2 N∧ ∀j:Int,0≤j→j<N→D.aJ.2.sec j=D.sec j)∨(D.aJ.1=30∧D.aJ.2.dead=true∧Twin D.aJ.2 D):=by
 have cq:=az.gA h.ok
 by_cases hf:D.dA=0
 ·have e:D.aJ=(30,{D with dead:=true}):=by unfold az.aJ;rw[if_neg (by rw[h.live];decide),sa hf];rfl
  rw[e]at cq ⊢;exact .inr ⟨rfl,rfl,cq,rfl,rfl⟩
 ·obtain⟨f,OR⟩:=sb hf;have e:D.aJ=(0,{D with dA:=f,l:=eQ D.es D.l,es:=[]}):=by unfold az.aJ;rw[if_neg (by rw[h.live];decide),OR,if_neg (by simp)]
  rw[e]at cq ⊢;refine .inl ⟨rfl,⟨cq,by simp[h.len],h.live,rfl⟩,fun j h0 h1=>?_⟩;unfold az.sec;dsimp only;rw[mA h.ok.uniq (fun x hx=>(h.ok.keys x hx).1) h0 (by rw[h.len];exact h1)];cases ix D.es j with
  |none=>rfl
  |some s=>rfl
theorem o3.dA{D:az}{N:Nat}(h:o3 D N){x:Int}(hx:x≤9223372036854775807):o3 (D.gZ x) N:=⟨az.kd h.ok hx,h.len,h.live⟩
def aU.mr(l:List (Bytes × Int))(le:Int)(p:Nat):Int:=if p=0 then le else(l.getD (p- 1) ([],0)).2
structure LX(first:Int)(n:Nat)(a b:Int)(D:az)(N k:Nat)(h T le:Int)(l:List (Bytes × Int))(p:Nat):Prop where
 aw:o3 D N
 e:cg D a b=0
 gen:(aF D a b).gen≤k
 hd:dH (aF D a b).text=(h,T,le)
 arg: ¬eO D first n a b
 h1:1≤h
 ht:h+l.length≤1+k
 t0:0≤T∧T≤k
 Cv:0≤le
 ll:l.length≤n
 ch:chain le l T
 sl: ∀x∈l,x.1.length≤110
 pl:p≤l.length
 cell:D.sec a=D.k4 a∧D.sec b=D.k4 b
 ring: ∀(i:Nat) (x:Bytes × Int),l[i]? =some x→D.sec (first+(h+i) % n)=pad (sL (h+i) x.2 x.1)
 here: ∀(i:Nat) (x:Bytes × Int),p≤i→l[i]? =some x→x.2=T
 sure: ∀j:Int,0≤j→j<n→(∀i:Nat,p≤i→i<l.length→j≠(h+i) % n)→D.sec (first+j)=D.k4 (first+j)
 old: ∀j:Int,0≤j→j<n→ ∀q t s,gN (D.k4 (first+j))=some (q,t,s)→t≤T∧(h+p≤q→t<T)
 Js: ∀t s,gN (D.k4 (first+(h+p) % n))=some (h+p,t,s)→t<aU.mr l le p
theorem LX.lim{first:Int}{n:Nat}{a b:Int}{D:az}{N k:Nat}{h T le:Int}{l:List (Bytes × Int)}{p:Nat}(g:LX first n a b D N k h T le l p):2≤n∧0≤first∧first+n≤N∧N≤512∧ ¬eN first n a∧ ¬eN first n b:=by
 have h1:=g.arg;unfold eO at h1;have h2:=g.aw.ok.n;have h3:=g.aw.len;rw[h3]at h1 h2;refine⟨by omega,by omega,by omega,by omega,fun hx=>h1 (.inr (.inr (.inr (.inr (.inl hx))))),fun hx=>h1 (.inr (.inr (.inr (.inr (.inr hx)))))⟩
theorem LX.ab{first:Int}{n:Nat}{a b:Int}{D:az}{N k:Nat}{h T le:Int}{l:List (Bytes × Int)}{p:Nat}(g:LX first n a b D N k h T le l p):(aF D a b).ok N∧(0≤a∧a<N)∧(0≤b∧b<N)∧a≠b:=by
 have hC:=(eW g.e).1;rw[g.aw.len]at hC;have e2:=im D a b;have ha:=hC.a;have hb:=hC.b;rw[e2.1]at ha;rw[e2.2]at hb;refine⟨hC,ha,hb,fun e=>?_⟩;have:=g.e;unfold cg at this;rw[if_pos (.inl e)]at this;cases this
theorem LX.FZ{first:Int}{n:Nat}{a b:Int}{D:az}{N k:Nat}{h T le:Int}{l:List (Bytes × Int)}{p:Nat}(g:LX first n a b D N k h T le l p):LX first n a b D N (k+1) h T le l p:=
 ⟨g.aw,g.e,by have:=g.gen;omega,g.hd,g.arg,g.h1,by have:=g.ht;omega,by have:=g.t0;omega,g.Cv,g.ll,g.ch,g.sl,g.pl,g.cell,g.ring,g.here,g.sure,g.old,g.Js⟩
theorem yq{D D':az}{N:Nat}{a b:Int}(h:o3 D N)(h':o3 D' N)(he:cg D a b=0):cg D' a b=0:=by
 unfold cg at he ⊢;rw[h.len]at he;rw[h'.len]
 by_cases c:a=b∨min a b<0∨(N:Int)≤max a b
 · rw[if_pos c]at he;cases he
 · rw[if_neg c,if_neg (by rw[h'.live];decide)]
theorem uM{D D':az}{N:Nat}{f n a b:Int}(h:o3 D N)(h':o3 D' N)(he: ¬eO D f n a b): ¬eO D' f n a b:=by
 unfold eO at he ⊢;rw[h'.len,←h.len];exact he
structure LR(first:Int)(n:Nat)(a b:Int)(D:az)(N k:Nat)(h T le:Int)(l:List (Bytes × Int)):Prop where
 lv:Live D N
 up:Up D N
 e:cg D a b=0
 gen:(aF D a b).gen≤k
 hd:dH (aF D a b).text=(h,T,le)
 arg: ¬eO D first n a b
 h1:1≤h
 ht:h+l.length≤1+k
 t0:0≤T∧T≤k
 Cv:0≤le
 ll:l.length≤n
 ch:chain le l T
 sl: ∀x∈l,x.1.length≤110
 ring: ∀(i:Nat) (x:Bytes × Int),l[i]? =some x→D.sec (first+(h+i) % n)=pad (sL (h+i) x.2 x.1)
 old: ∀j:Int,0≤j→j<n→ ∀q t s,gN (D.sec (first+j))=some (q,t,s)→t≤T
 Js: ∀t s,gN (D.sec (first+(h+l.length) % n))=some (h+l.length,t,s)→t<aU.mr l le l.length
theorem LR.FZ{first:Int}{n:Nat}{a b:Int}{D:az}{N k:Nat}{h T le:Int}{l:List (Bytes × Int)}(g:LR first n a b D N k h T le l):LR first n a b D N (k+1) h T le l:=
 ⟨g.lv,g.up,g.e,by have:=g.gen;omega,g.hd,g.arg,g.h1,by have:=g.ht;omega,by have:=g.t0;omega,g.Cv,g.ll,g.ch,g.sl,g.ring,g.old,g.Js⟩
theorem FG{D:az}{first:Int}{n:Nat}{T:Int}(hn:0<n): ∀(l:List (Bytes × Int)) (f:Nat) (tail lo:Int),l.length≤f→wJ tail→tail+l.length≤4611686018427388416→0≤lo→T≤4611686018427388416→chain lo l T→(∀x∈l,x.1.length≤110)→
  (∀(i:Nat) (x:Bytes × Int),l[i]? =some x→D.sec (first+(tail+i) % n)=pad (sL (tail+i) x.2 x.1))→(∀t s,gN (D.sec (first+(tail+l.length) % n))=some (tail+l.length,t,s)→t<aU.mr l lo l.length)→
  fI D first n T f tail lo=l
 | [],f,tail,lo,_,_,_,_,_,_,_,_,ho=>by
  cases hr:gN (D.sec (first+tail % n))with
  |none=>exact Kh hr
  |some v=>
   obtain⟨q,t,s⟩:=v;refine yY hr (fun hc=>?_);obtain⟨h1,h2,h3⟩:=hc;subst h1;have:=ho t s (by simpa using hr);unfold aU.mr at this;rw[if_pos (show([]:List (Bytes × Int)).length=0 from rfl)]at this;omega
 |x::l,0,_,_,hf,_,_,_,_,_,_,_,_=>by simp at hf
 |x::l,f+1,tail,lo,hf,ht,Gi,h0,hT,hc,hs,hr,ho=>by
  have h1:=hr 0 x rfl;have hxT:=lA hc x (by simp)
  have e1:gN (D.sec (first+tail % n))=some (tail,x.2,x.1):=by
   have:tail+((0:Nat):Int)=tail:=by simp
   rw[this]at h1;rw[h1];exact Bd ht ⟨by omega,by omega⟩ (hs x (by simp))
  rw[Kg e1 rfl hxT.1 hxT.2];simp only[List.length_cons]at hf Gi ho
  have:=FG hn l f (tail+1) x.2 (by omega) ⟨by have:=ht.1;omega,by omega⟩ (by omega) (by omega) hT hc.2 (fun y hy=>hs y (by simp[hy])) (fun i y hy=>by
   have:=hr (i+1) y (by simpa using hy);rw[show tail+1+(i:Int)=tail+((i+1:Nat):Int)by omega];exact this) (fun t s hq=>by
   have h2:=ho t s (by rw[show tail+((l.length+1:Nat):Int)=tail+1+(l.length:Int)by omega];exact hq);unfold aU.mr at h2 ⊢;rw[if_neg (by omega)]at h2;cases l with
   |nil=>rw[if_pos (show([]:List (Bytes × Int)).length=0 from rfl)];exact h2
   |cons y l=>rw[if_neg (by simp)];simpa using h2)
  rw[this]
end Go.Sl
namespace Go.Sl
variable {first : Int} {n : Nat} {a b : Int} {D : az} {N k : Nat} {h T le : Int} {l : List (Bytes × Int)} {p : Nat}
theorem JM(P:Nat→Prop) [DecidablePred P](p:Nat): ∀m:Nat,p≤m→(∀i,i<p→P i)→ ∃q,p≤q∧q≤m∧(∀i,i<q→P i)∧(q=m∨ ¬P q)
 |0,hm,h0=>⟨0,by omega,by omega,fun i hi=>by omega,.inl rfl⟩
 |m+1,hm,h0=>by
  by_cases e:p=m+1
  ·exact⟨m+1,by omega,by omega,fun i hi=>h0 i (by omega),.inl rfl⟩
  ·obtain⟨q,h1,h2,h3,h4⟩:=JM P p m (by omega) h0;rcases h4 with h4|h4
   ·subst h4
    by_cases hp:P q
    · exact⟨q+1,by omega,by omega,fun i hi=>by
     by_cases hi2:i=q
     · rw[hi2];exact hp
     · exact h3 i (by omega),.inl rfl⟩
    · exact⟨q,h1,by omega,h3,.inr hp⟩
   ·exact⟨q,h1,by omega,h3,.inr h4⟩
theorem xr: ∀{l:List (Bytes × Int)} {lo hi:Int} (j:Nat),chain lo l hi→chain lo (l.take j) hi
 |l,lo,hi,0,h=>by rw[List.take_zero];exact iR h
 | [],lo,hi,j+1,h=>h
 |y::l,lo,hi,j+1,h=>⟨h.1,xr j h.2⟩
theorem HX{q:Nat}(hq:q≤l.length):aU.mr (l.take q) le q=aU.mr l le q:=by
 unfold aU.mr
 by_cases h0:q=0
 · rw[if_pos h0,if_pos h0]
 · rw[if_neg h0,if_neg h0,List.getD_eq_getElem?_getD,List.getD_eq_getElem?_getD,List.getElem?_take,if_pos (by omega)]
theorem Fo(hn:0<n){i j:Nat}(Jy:i<j)(hj:j<i+n):(h+i) % (n:Int)≠(h+j) % n:=Jk (by omega) (by omega)
theorem LX.place(g:LX first n a b D N k h T le l p)(q:Int):0≤q % (n:Int)∧q % (n:Int)<n:=by
 have:=g.lim;exact⟨Int.emod_nonneg _ (by omega),Int.emod_lt_of_pos _ (by omega)⟩
theorem LX.bound(g:LX first n a b D N k h T le l p)(hk:k<4611686018427387000):wJ h∧wJ (h+l.length)∧wJ T∧wJ le:=by
 have h1:=g.h1;have h2:=g.ht;have h3:=g.t0;have h4:=g.Cv;have h5:=iR g.ch;exact⟨⟨by omega,by omega⟩,⟨by omega,by omega⟩,⟨by omega,by omega⟩,⟨by omega,by omega⟩⟩
theorem LX.read(g:LX first n a b D N k h T le l p)(hk:k<4611686018427387000){i:Nat}{x:Bytes × Int}(hx:l[i]? =some x):gN (D.sec (first+(h+i) % n))=some (h+i,x.2,x.1):=by
 have hi:=(List.getElem?_eq_some_iff.1 hx).1;have hb:=g.bound hk;have hm:=lA g.ch x (List.mem_of_getElem? hx);rw[g.ring i x hx];unfold wJ at hb;exact Bd ⟨by omega,by omega⟩ ⟨by omega,by omega⟩ (g.sl x (List.mem_of_getElem? hx))
theorem LX.is(g:LX first n a b D N k h T le l p){j:Int}(h0:0≤j)(h1:j<n):D.sec (first+j)=D.k4 (first+j)∨ ∃(i:Nat) (x:Bytes × Int),p≤i∧l[i]? =some x∧j=(h+i) % n:=by
 by_cases hc: ∃i:Nat,p≤i∧i<l.length∧j=(h+i) % n
 ·obtain⟨i,q1,q2,q3⟩:=hc;exact .inr ⟨i,_,q1,List.getElem?_eq_getElem q2,q3⟩
 ·exact .inl (g.sure j h0 h1 fun i q1 q2 q3=>hc ⟨i,q1,q2,q3⟩)
theorem LX.bD(g:LX first n a b D N k h T le l p)(hk:k<4611686018427387000){D':az}(ht:Twin D' D){ks:dq}(kn: ∀x∈ks,x.1≠2):
  ∃q,p≤q∧q≤l.length∧LR first n a b (D'.bD ks) N k h T le (l.take q):=by
 obtain⟨m1,m2,m3,m4,m5,m6⟩:=g.lim;obtain⟨hC,ha,hb,uF⟩:=g.ab;have hlen:D'.l.length=N:=by rw[ht.l];exact g.aw.len
 have hLv:=GV ht.ok hlen ks;have hU:Up (D'.bD ks) N:=by have:=sv ht.ok ks;rw[hlen]at this;exact this
 have hp: ∀j:Int,0≤j→j<N→(D'.bD ks).sec j=D.k4 j∨(D'.bD ks).sec j=D.sec j:=fun j h0 h1=>by
  rw[←ht.k4 j,←ht.sec j];exact ri ht.ok hlen kn h0 h1
 have hca:(D'.bD ks).sec a=D.sec a:=by rcases hp a ha.1 ha.2 with e|e;rw[e,g.cell.1];exact e
 have Wq:(D'.bD ks).sec b=D.sec b:=by rcases hp b hb.1 hb.2 with e|e;rw[e,g.cell.2];exact e
 have ho:aF (D'.bD ks) a b=aF D a b:=gm hca Wq;have hE:cg (D'.bD ks) a b=0:=nD hU uF ha hb;have Gh: ∀q:Int,0≤first+q % (n:Int)∧first+q % (n:Int)<N:=fun q=>by have:=g.place q;omega
 obtain⟨q,q1,q2,q3,q4⟩:=JM (fun i=>(D'.bD ks).sec (first+(h+i) % n)=D.sec (first+(h+i) % n)) p l.length g.pl (fun i hi=>by
  have h2:=Gh (h+i);have oI:=g.ll;have auh:=g.pl;have h3:=g.sure ((h+i) % n) (g.place _).1 (g.place _).2 (fun j j1 j2=>Fo (by omega) (by omega) (by omega));rcases hp _ h2.1 h2.2 with e|e
  ·rw[e,h3]
  ·exact e)
 have hbd:=g.bound hk;have oI:=g.ll;have hpp:=g.pl;refine⟨q,q1,q2,hLv,hU,hE,by rw[ho];exact g.gen,by rw[ho];exact g.hd,?_,g.h1,?_,g.t0,g.Cv,?_,xr q g.ch,fun x hx=>g.sl x (List.mem_of_mem_take hx),fun i x hx=>?_,fun j h0 h1 q' t s hr=>?_,fun t s hr=>?_⟩
 ·exact uM g.aw (o3.te hLv) g.arg
 ·have:=g.ht;rw[List.length_take];omega
 ·rw[List.length_take];omega
 ·rw[List.getElem?_take]at hx
  by_cases hi:i<q
  ·rw[if_pos hi]at hx;rw[q3 i hi];exact g.ring i x hx
  ·rw[if_neg hi]at hx;cases hx
 ·rcases hp (first+j) (by omega) (by omega)with e|e
  ·rw[e]at hr;exact(g.old j h0 h1 q' t s hr).1
  ·rw[e]at hr;rcases g.is h0 h1 with e2|⟨i,x,i1,i2,i3⟩
   ·rw[e2]at hr;exact(g.old j h0 h1 q' t s hr).1
   ·rw[i3,g.read hk i2]at hr;simp only[Option.some.injEq,Prod.mk.injEq]at hr;have:=g.here i x i1 i2;omega
 ·rw[List.length_take,show min q l.length=q by omega]at hr ⊢;rw[HX q2]
  have lj:(D'.bD ks).sec (first+(h+q) % n)=D.k4 (first+(h+q) % n):=by
   have h2:=Gh (h+q);rcases q4 with q4|q4
   ·by_cases hf:l.length<n
    ·have h3:=g.sure ((h+q) % n) (g.place _).1 (g.place _).2 (fun j j1 j2=>Ne.symm (Fo (by omega) (by omega) (by omega)));rcases hp _ h2.1 h2.2 with e|e
     · exact e
     · rw[e,h3]
    ·exfalso;have hqn:q=n:=by omega
     have e0:(h+(q:Int)) % n=(h+((0:Nat):Int)) % n:=by rw[hqn];simp
     have SJ:l[0]? =some (l[0]'(by omega)):=List.getElem?_eq_getElem _;have:=g.read hk SJ;rw[←q3 0 (by omega),←e0,hr]at this;simp only[Option.some.injEq,Prod.mk.injEq]at this;omega
   ·rcases hp _ h2.1 h2.2 with e|e
    ·exact e
    ·exact absurd e q4
  rw[lj]at hr
  by_cases hq:q=p
  ·subst hq;exact g.Js t s hr
  ·have h3:=(g.old _ (g.place _).1 (g.place _).2 _ _ _ hr).2 (by omega);have hx:l[q- 1]? =some (l[q- 1]'(by omega)):=List.getElem?_eq_getElem _;have h4:=g.here (q- 1) _ (by omega) hx;unfold aU.mr;rw[if_neg (by omega),List.getD_eq_getElem?_getD,hx,Option.getD_some,h4];exact h3
theorem LR.opened(g:LR first n a b D N k h T le l)(hk:k<4611686018427387000):
  ∃D',bh D first n a b=(0,⟨first,n,aF D' a b,h,T+1,le,l⟩,D')∧LX first n a b D' N (k+1) h (T+1) le l l.length∧D'.es=[]∧Up D' N∧ ∀j:Int,0≤j→j<N→j≠a→j≠b→D'.sec j=D.sec j:=by
 have rq:=g.arg;unfold eO at rq;have hlen:=g.up.len;have M5:=g.up.ok.n;rw[hlen]at rq M5;have h1:=g.h1;have h2:=g.ht;have h3:=g.t0;have h4:=g.Cv;have h5:=iR g.ch;have JD:fI D first n T n h le=l:=FG (by omega) l n h le g.ll ⟨by omega,by omega⟩ (by omega) h4 (by omega) g.ch g.sl g.ring g.Js
 have Lv:kC D first (n:Int).toNat a b=⟨first,n,aF D a b,h,T+1,le,l⟩:=by
  unfold kC;rw[g.hd];show(⟨first,n,aF D a b,h,T+1,le,fI D first n T n h le⟩:aU)=_;rw[JD]
 have hhl:=qe (h:=h) (t:=T+1) (l:=le) ⟨by omega,by omega⟩ ⟨by omega,by omega⟩ ⟨by omega,by omega⟩;have hg:=g.gen;obtain⟨D',p1,p2,p3,p4,p5⟩:=PC g.up g.e hhl (by omega);have LA: ∀j:Int,0≤j→j<n→D'.sec (first+j)=D.sec (first+j):=fun j h0 h1=>p5 _ (by omega) (by omega) (fun e=>rq (.inr (.inr (.inr (.inr (.inl ⟨by omega,by omega⟩)))))) (fun e=>rq (.inr (.inr (.inr (.inr (.inr ⟨by omega,by omega⟩))))))
 have hem: ∀q:Int,0≤q % (n:Int)∧q % (n:Int)<n:=fun q=>⟨Int.emod_nonneg _ (by omega),Int.emod_lt_of_pos _ (by omega)⟩
 have lj: ∀j,D'.sec j=D'.k4 j:=fun j=>lz p3 j
 refine⟨D',?_,⟨o3.WX p2,PB g.up p2 g.e,by rw[p4];show(aF D a b).gen+1≤_;omega,?_,aal g.up p2 g.arg,h1,by omega,by omega,h4,g.ll,DI g.ch (by omega),g.sl,Nat.le_refl _,⟨lj a,lj b⟩,fun i x hx=>?_,fun i x hi hx=>?_,fun j _ _ _=>lj _,fun j h0 h1 q t s hr=>?_,fun t s hr=>?_⟩,p3,p2,p5⟩
 ·unfold bh;rw[if_neg g.arg,if_neg (by rw[g.e];decide),if_neg (by rw[g.hd];dsimp only;omega),Lv];unfold aU.put;dsimp only;rw[p1,p4]
 ·rw[p4];exact xV ⟨by omega,by omega⟩ ⟨by omega,by omega⟩ ⟨by omega,by omega⟩
 ·rw[LA _ (hem _).1 (hem _).2];exact g.ring i x hx
 ·rw[List.getElem?_eq_none (by omega)]at hx;cases hx
 ·rw[←lj,LA j h0 h1]at hr;have:=g.old j h0 h1 q t s hr;exact⟨by omega,fun _=>by omega⟩
 ·rw[←lj,LA _ (hem _).1 (hem _).2]at hr;exact g.Js t s hr
theorem aaA{N n:Nat}{first a b:Int}(hN:N≤512)(hn:2≤n)(hf:0≤first∧first+n≤N)(uF:a≠b)(ha:0≤a∧a<N)(hb:0≤b∧b<N)(hra: ¬eN first n a)(T9: ¬eN first n b):LR first n a b (az.new N) N 0 1 0 0 []:=by
 have g:=Qd hN hn hf uF ha hb hra T9;refine⟨⟨g.up.ok,g.up.len,g.up.live,rfl⟩,g.up,g.e,g.gen,g.hd,g.arg,g.h1,g.ht,g.t0,g.Cv,g.ll,g.ch,g.sl,g.ring,fun j h0 h1 q t s hr=>?_,fun t s hr=>?_⟩
 ·rw[CV (n:=N) (by omega) (by omega),rM]at hr;cases hr
 ·have h0:=Int.emod_nonneg (1+(([]:List (Bytes × Int)).length:Int)) (show(n:Int)≠0 by omega);have h1:=Int.emod_lt_of_pos (1+(([]:List (Bytes × Int)).length:Int)) (show(0:Int)<n by omega);rw[CV (n:=N) (by omega) (by omega),rM]at hr;cases hr
end Go.Sl
namespace Go.Sl
variable {first : Int} {n : Nat} {a b : Int} {D : az} {N k : Nat} {h T le : Int} {l : List (Bytes × Int)} {p : Nat}
theorem LX.ok0(g:LX first n a b D N k h T le l p)(hk:k<4611686018427387000):(⟨first,n,aF D a b,h,T,le,l⟩:aU).ok D:=by
 obtain⟨l1,l2,l3,l4,l5,l6⟩:=g.lim;have h1:=g.h1;have h2:=g.ht;have h3:=g.t0;have h4:=g.Cv;have h5:=iR g.ch;refine⟨l1,⟨l2,by rw[g.aw.len];exact l3⟩,(eW g.e).1,h1,⟨h3.1,by dsimp only;omega⟩,⟨h4,by dsimp only;omega⟩,g.ll,fun x hx=>?_,?_,g.aw.ok⟩
 ·have:=lA g.ch x hx;exact⟨g.sl x hx,by omega,by omega⟩
 ·unfold aU.tail;dsimp only;omega
theorem LN{x:Bytes × Int}{q:Nat}(hq:q≤l.length):aU.mr (l++[x]) le q=aU.mr l le q:=by
 unfold aU.mr
 by_cases h0:q=0
 · rw[if_pos h0,if_pos h0]
 · rw[if_neg h0,if_neg h0,List.getD_eq_getElem?_getD,List.getD_eq_getElem?_getD,List.getElem?_append_left (by omega)]
theorem LX.append(g:LX first n a b D N k h T le l p)(hk:k<4611686018427387000){s:Bytes}(hs:s.length≤110)(hf:l.length<n):
  (∃D',(⟨first,n,aF D a b,h,T,le,l⟩:aU).append D s=(0,⟨first,n,aF D' a b,h,T,le,l++[(s,T)]⟩,D')∧LX first n a b D' N (k+1) h T le (l++[(s,T)]) p)∨
  (∃D',(⟨first,n,aF D a b,h,T,le,l⟩:aU).append D s=(30,⟨first,n,aF D a b,h,T,le,l⟩,D')∧D'.dead=true∧Twin D' D):=by
 obtain⟨l1,l2,l3,l4,l5,l6⟩:=g.lim;obtain⟨hC,ha,hb,uF⟩:=g.ab;have h1:=g.h1;have h2:=g.ht;have h3:=g.t0;have h4:=g.Cv;have h5:=iR g.ch;have oI:=g.ll;have Gh:=g.pl;have hbd:=g.bound hk;unfold wJ at hbd;have T2:=Int.emod_nonneg (h+l.length) (show(n:Int)≠0 by omega);have JA:=Int.emod_lt_of_pos (h+l.length) (show(0:Int)<n by omega);have hfl:=Tu (q:=h+l.length) (t:=T) (s:=s) ⟨by omega,by omega⟩ ⟨by omega,by omega⟩ (by omega);unfold aU.append;rw[if_neg (by omega),if_neg (by dsimp only;omega),if_neg (by unfold aU.tail;dsimp only;omega)];have ep:(⟨first,n,aF D a b,h,T,le,l⟩:aU).place (⟨first,n,aF D a b,h,T,le,l⟩:aU).tail=first+(h+l.length) % n:=rfl;have et:(⟨first,n,aF D a b,h,T,le,l⟩:aU).tail=h+l.length:=rfl;rw[ep,et];dsimp only;have hw:=g.aw.write (i:=first+(h+l.length) % n) (bs:=sL (h+l.length) T s) (by omega) (by omega) (by omega);obtain⟨w,sS⟩: ∃w,D.write (first+(h+l.length) % n) (sL (h+l.length) T s)=w:=⟨_,rfl⟩;rw[sS]at hw ⊢;rcases hw with⟨w0,w1,w2,w3,w4⟩|⟨w0,w1,w2⟩
 ·left
  have xY: ∀j:Int,¬eN first n j→j≠first+(h+l.length) % n:=fun j hj e=>hj (by rw[e];exact⟨by omega,by omega⟩)
  have ho:aF w.2 a b=aF D a b:=gm (w4 a (xY a l5)) (w4 b (xY b l6));refine⟨w.2,by rw[w0,if_pos rfl,ho],⟨w1,yq g.aw w1 g.e,by rw[ho];have:=g.gen;omega,by rw[ho];exact g.hd,uM g.aw w1 g.arg,h1,by simp;omega,by omega,h4,by simp;omega,xq g.ch,fun x hx=>?_,by simp;omega,?_,fun i x hx=>?_,fun i x hi hx=>?_,fun j j0 j1 hj=>?_,fun j j0 j1 q t u hr=>?_,fun t u hr=>?_⟩⟩
  ·rcases List.mem_append.1 hx with hx|hx
   ·exact g.sl x hx
   ·simp at hx;subst hx;exact hs
  ·rw[w4 a (xY a l5),w4 b (xY b l6),w2,w2];exact g.cell
  ·rcases Nat.lt_or_ge i l.length with hi|hi
   ·rw[List.getElem?_append_left hi]at hx;rw[w4]
    ·exact g.ring i x hx
    ·intro e;exact Jk (x:=h+i) (y:=h+l.length) (n:=n) (by omega) (by omega) (by omega)
   ·have:i=l.length:=by
     have:=(List.getElem?_eq_some_iff.1 hx).1;simp at this;omega
    subst this;simp at hx;subst hx;exact w3
  ·rcases Nat.lt_or_ge i l.length with hi2|hi2
   ·rw[List.getElem?_append_left hi2]at hx;exact g.here i x hi hx
   ·have:i=l.length:=by
     have:=(List.getElem?_eq_some_iff.1 hx).1;simp at this;omega
    subst this;simp at hx;subst hx;rfl
  ·have hjl:=hj l.length Gh (by simp);rw[w4 _ (by omega),w2];exact g.sure j j0 j1 fun i i0 i1=>hj i i0 (by simp;omega)
  ·rw[w2]at hr;exact g.old j j0 j1 q t u hr
  ·rw[w2]at hr;rw[LN Gh];exact g.Js t u hr
 ·right
  exact⟨w.2,by rw[w0,if_neg (by decide)],w1,w2⟩
theorem LX.FQ(g:LX first n a b D N k h T le l p)(hk:k<4611686018427387000){D':az}(hL:Live D' N)(hs: ∀j:Int,0≤j→j<N→D'.sec j=D.sec j):LX first n a b D' N k h T le l l.length∧aF D' a b=aF D a b:=by
 obtain⟨l1,l2,l3,l4,l5,l6⟩:=g.lim;obtain⟨hC,ha,hb,uF⟩:=g.ab;have ho:aF D' a b=aF D a b:=gm (hs a ha.1 ha.2) (hs b hb.1 hb.2);have haw:=o3.te hL;have lj: ∀j,D'.sec j=D'.k4 j:=fun j=>lz hL.es j
 have oI:=g.ll;have Gh:=g.pl;have hpp: ∀q:Int,0≤first+q % (n:Int)∧first+q % (n:Int)<N:=fun q=>by have:=g.place q;omega
 have hold: ∀j:Int,0≤j→j<n→ ∀q t s,gN (D.sec (first+j))=some (q,t,s)→t≤T∧(h+l.length≤q→t<T):=fun j j0 j1 q t s hr=>by
  rcases g.is j0 j1 with e|⟨i,x,i1,i2,i3⟩
  ·rw[e]at hr;have:=g.old j j0 j1 q t s hr;exact⟨this.1,fun hq=>this.2 (by omega)⟩
  ·rw[i3,g.read hk i2]at hr;simp only[Option.some.injEq,Prod.mk.injEq]at hr;have h1:=g.here i x i1 i2;have h2:=(List.getElem?_eq_some_iff.1 i2).1;exact⟨by omega,fun hq=>by omega⟩
 refine⟨⟨haw,yq g.aw haw g.e,by rw[ho];exact g.gen,by rw[ho];exact g.hd,uM g.aw haw g.arg,g.h1,g.ht,g.t0,g.Cv,g.ll,g.ch,g.sl,Nat.le_refl _,⟨lj a,lj b⟩,fun i x hx=>?_,fun i x hi hx=>?_,fun j _ _ _=>lj _,fun j j0 j1 q t s hr=>?_,fun t s hr=>?_⟩,ho⟩
 ·rw[hs _ (hpp _).1 (hpp _).2];exact g.ring i x hx
 ·rw[List.getElem?_eq_none (by omega)]at hx;cases hx
 ·rw[←lj,hs _ (by omega) (by omega)]at hr;exact hold j j0 j1 q t s hr
 ·rw[←lj,hs _ (hpp _).1 (hpp _).2]at hr
  by_cases hp:p=l.length
  ·have hnp:=g.sure ((h+l.length) % n) (g.place _).1 (g.place _).2 (fun j j1 j2=>by omega);rw[hnp]at hr;rw[←hp]at hr ⊢;exact g.Js t s hr
  ·have h3:=(hold _ (g.place _).1 (g.place _).2 _ _ _ hr).2 (Int.le_refl _);have hx:l[l.length- 1]? =some (l[l.length- 1]'(by omega)):=List.getElem?_eq_getElem _;have h4:=g.here (l.length- 1) _ (by omega) hx;unfold aU.mr;rw[if_neg (by omega),List.getD_eq_getElem?_getD,hx,Option.getD_some,h4];exact h3
theorem LX.sync(g:LX first n a b D N k h T le l p)(hk:k<4611686018427387000):
  (D.aJ.1=0∧Live D.aJ.2 N∧LX first n a b D.aJ.2 N k h T le l l.length∧aF D.aJ.2 a b=aF D a b)∨(D.aJ.1=30∧D.aJ.2.dead=true∧Twin D.aJ.2 D):=by
 rcases g.aw.aJ with⟨h1,h2,h3⟩|h1
 ·have:=g.FQ hk h2 h3;exact .inl ⟨h1,h2,this.1,this.2⟩
 ·exact .inr h1
theorem LX.dA(g:LX first n a b D N k h T le l p){x:Int}(hx:x≤9223372036854775807):LX first n a b (D.gZ x) N k h T le l p:=
 ⟨g.aw.dA hx,g.e,g.gen,g.hd,g.arg,g.h1,g.ht,g.t0,g.Cv,g.ll,g.ch,g.sl,g.pl,g.cell,g.ring,g.here,g.sure,g.old,g.Js⟩
structure Nl(first:Int)(n:Nat)(a b:Int)(D':az)(N k:Nat)(h T le:Int)(l:List (Bytes × Int))(m rZ:Int) where
 D:az
 g:LX first n a b D N k h T le l l.length
 lv:Live D N
 half:I8 D' D N (aF D a b).other (pad (cG ((aF D a b).gen+1) (bL (fE m T rZ))))
 hm:h≤m∧m≤h+l.length
 hle:rZ=if 0<(m-h).toNat then(l.getD ((m-h).toNat- 1) ([],0)).2 else le
theorem LX.We(g:LX first n a b D N k h T le l l.length)(hk:k<4611686018427387000){D':az}(hL:Live D' N)(hU:Up D' N){m rZ:Int}(hm:h≤m∧m≤h+l.length)(hle:rZ=if 0<(m-h).toNat then(l.getD ((m-h).toNat- 1) ([],0)).2 else le)
  (ho:aF D' a b=(aF D a b).next (bL (fE m T rZ))) (hs: ∀j:Int,0≤j→j<n→D'.sec (first+j)=D.sec (first+j)):LR first n a b D' N (k+1) m T rZ (l.drop (m-h).toNat):=by
 obtain⟨l1,l2,l3,l4,l5,l6⟩:=g.lim;obtain⟨hC,ha,hb,uF⟩:=g.ab;have h1:=g.h1;have h2:=g.ht;have h3:=g.t0;have h4:=g.Cv;have h5:=iR g.ch;have oI:=g.ll;obtain⟨j,hj⟩: ∃j:Nat,m-h=j:=⟨(m-h).toNat,by omega⟩;have hjt:(m-h).toNat=j:=by omega
 rw[hjt]at hle ⊢
 have AK:chain rZ (l.drop j) T:=by
  rw[hle];rcases xp j g.ch with hc|hc
  ·exact hc
  ·omega
 have apl:0≤rZ:=by
  rw[hle];split
  ·have hx:l[j- 1]? =some (l.getD (j- 1) ([],0)):=gK (by omega);have:=lA g.ch _ (List.mem_of_getElem? hx);omega
  ·exact h4
 have auc:=iR AK;refine⟨hL,hU,nD hU uF ha hb,by rw[ho];have:=g.gen;show(aF D a b).gen+1≤_;omega,?_,uM g.aw (o3.te hL) g.arg,by omega,by simp;omega,by omega,apl,by simp;omega,AK,fun x hx=>g.sl x (List.mem_of_mem_drop hx),fun i x hx=>?_,fun i i0 i1 q t s hr=>?_,fun t s hr=>?_⟩
 ·rw[ho];exact xV ⟨by omega,by omega⟩ ⟨by omega,by omega⟩ ⟨by omega,by omega⟩
 ·rw[List.getElem?_drop]at hx;have:=g.ring (j+i) x hx;rw[hs _ (g.place _).1 (g.place _).2,show m+(i:Int)=h+((j+i:Nat):Int)by omega];exact this
 ·rw[hs i i0 i1]at hr;rcases g.is i0 i1 with e|⟨z,x,z1,z2,z3⟩
  ·rw[e]at hr;exact(g.old i i0 i1 q t s hr).1
  ·rw[List.getElem?_eq_none (by omega)]at z2;cases z2
 ·rw[hs _ (g.place _).1 (g.place _).2]at hr;have hlen:((l.drop j).length:Int)=l.length-j:=by simp;omega
  rw[show m+((l.drop j).length:Int)=h+(l.length:Int)by omega]at hr;have lj:=g.sure ((h+l.length) % n) (g.place _).1 (g.place _).2 (fun z z1 z2=>by omega);rw[lj]at hr;have hg:=g.Js t s hr;unfold aU.mr at hg ⊢
  by_cases hjl:j=l.length
  ·rw[if_pos (by simp;omega),hle]
   by_cases h0:l.length=0
   ·rw[if_pos h0]at hg;rw[if_neg (by omega)];exact hg
   ·rw[if_neg h0]at hg;rw[if_pos (by omega),hjl];exact hg
  ·rw[if_neg (by simp;omega)];rw[if_neg (by omega)]at hg
   have e:(l.drop j).getD ((l.drop j).length- 1) ([],0)=l.getD (l.length- 1) ([],0):=by
    rw[List.getD_eq_getElem?_getD,List.getD_eq_getElem?_getD,List.getElem?_drop];congr 2;simp;omega
   rw[e];exact hg
theorem Nl.bD{D':az}{m rZ:Int}(q:Nl first n a b D' N k h T le l m rZ)(hk:k<4611686018427387000){ks:dq}(kn: ∀x∈ks,x.1≠2):
  LR first n a b (D'.bD ks) N k h T le l∨LR first n a b (D'.bD ks) N (k+1) m T rZ (l.drop (m-h).toNat):=by
 obtain⟨D,g,lv,half,hm,hle⟩:=q;obtain⟨l1,l2,l3,l4,l5,l6⟩:=g.lim;obtain⟨hC,ha,hb,uF⟩:=g.ab;have hbd:=g.bound hk;unfold wJ at hbd;have EB:=g.gen;have oI:=g.ll
 have hole:0≤rZ∧rZ≤4611686018427387904:=by
  have h3:=g.t0;rw[hle];split
  ·have hx:l[(m-h).toNat- 1]? =some (l.getD ((m-h).toNat- 1) ([],0)):=gK (by omega);have h4:=g.Cv;have:=lA g.ch _ (List.mem_of_getElem? hx);omega
  ·have h4:=g.Cv;have h5:=iR g.ch;omega
 have h3:=g.t0;have h2:=g.ht;have h1:=g.h1;have Pa:=qe (h:=m) (t:=T) (l:=rZ) ⟨by omega,by omega⟩ ⟨by omega,by omega⟩ ⟨by omega,by omega⟩;obtain⟨c1,c2,c3⟩:=xR half kn;have hlen:D'.l.length=N:=by rw[half.l];exact lv.len
 have hU:Up (D'.bD ks) N:=by have:=sv half.ok ks;rw[hlen]at this;exact this
 have Zx:(aF D a b).other=a∨(aF D a b).other=b:=by
  have e2:=im D a b;unfold a8.other;rw[e2.1,e2.2];split
  ·exact .inr rfl
  ·exact .inl rfl
 have x7: ∀j:Int,0≤j→j<n→(D'.bD ks).sec (first+j)=D.sec (first+j):=fun j j0 j1=>by
  refine c2 _ (by omega) (by omega) (fun e=>?_);rcases Zx with e2|e2
  ·exact l5 (by rw[←e2,←e];exact⟨by omega,by omega⟩)
  ·exact l6 (by rw[←e2,←e];exact⟨by omega,by omega⟩)
 rcases Ln half kn hC Pa (by omega)with ho|ho
 ·left
  have lj: ∀z:Int,D.sec z=D.k4 z:=fun z=>lz lv.es z
  refine⟨c1,hU,nD hU uF ha hb,by rw[ho];exact g.gen,by rw[ho];exact g.hd,uM g.aw (o3.te c1) g.arg,g.h1,g.ht,g.t0,g.Cv,g.ll,g.ch,g.sl,fun i x hx=>?_,fun j j0 j1 q t s hr=>?_,fun t s hr=>?_⟩
  ·rw[x7 _ (g.place _).1 (g.place _).2];exact g.ring i x hx
  ·rw[x7 j j0 j1,lj]at hr;exact(g.old j j0 j1 q t s hr).1
  ·rw[x7 _ (g.place _).1 (g.place _).2,lj]at hr;exact g.Js t s hr
 ·right
  exact g.We hk c1 hU hm hle ho x7
theorem LX.trim(g:LX first n a b D N k h T le l p)(hk:k<4611686018427387000){m:Int}(hm:h≤m∧m≤h+l.length):
  (∃D' rZ,(⟨first,n,aF D a b,h,T,le,l⟩:aU).trim D m=(0,⟨first,n,aF D' a b,m,T,rZ,l.drop (m-h).toNat⟩,D')∧LX first n a b D' N (k+1) m T rZ (l.drop (m-h).toNat) (l.drop (m-h).toNat).length)∨
  (∃D',(⟨first,n,aF D a b,h,T,le,l⟩:aU).trim D m=(30,⟨first,n,aF D a b,h,T,le,l⟩,D')∧D'.dead=true∧(Twin D' D∨ ∃rZ,Nonempty (Nl first n a b D' N k h T le l m rZ))):=by
 have cq:=g.ok0 hk;have Dj:aI m (⟨first,n,aF D a b,h,T,le,l⟩:aU).head (⟨first,n,aF D a b,h,T,le,l⟩:aU).tail=true:=ca.2 hm
 have EF:(⟨first,n,aF D a b,h,T,le,l⟩:aU).dP m=if 0<(m-h).toNat then(l.getD ((m-h).toNat- 1) ([],0)).2 else le:=by
  unfold aU.dP;dsimp only
  by_cases hc:h<m
  ·rw[if_pos hc,if_pos (by omega),show(m-h- 1).toNat=(m-h).toNat- 1 by omega]
  ·rw[if_neg hc,if_neg (by omega)]
 have Cd:=rE cq (k:=m) (by unfold aU.tail;exact hm.2);have h1:=g.h1;have h2:=g.ht;have h3:=g.t0;have EB:=g.gen;have oI:=g.ll;unfold aU.trim;rw[if_neg (by rw[Dj];decide)];rcases g.sync hk with⟨b0,b1,b2,b3⟩|⟨b0,b1,b2⟩
 ·rw[if_neg (by rw[b0];exact fun h=>h rfl)];obtain⟨hC,ha,hb,uF⟩:=b2.ab;have hbg:=b2.gen;generalize apm:(⟨first,n,aF D a b,h,T,le,l⟩:aU).dP m=rZ at*;have Pa:=qe (h:=m) (t:=T) (l:=rZ) ⟨by omega,by omega⟩ ⟨by omega,by omega⟩ ⟨by omega,by omega⟩
  have jP: ∀r,(aF D.aJ.2 a b).put D.aJ.2 (bL (fE m T rZ))=r→aU.put ⟨first,n,aF D a b,h,T,le,l⟩ D.aJ.2 m rZ=(r.1,⟨first,n,r.2.1,h,T,le,l⟩,r.2.2):=fun r hr=>by
   unfold aU.put;dsimp only;rw[←b3,hr]
  rcases Ri b1 hC Pa (by omega)with⟨D',p1,p2,p3,p4⟩|⟨D',p1,p2⟩
  ·left
   have hU:o3 D' N:=o3.te p2
   have Zx:(aF D.aJ.2 a b).other=a∨(aF D.aJ.2 a b).other=b:=by
    have e2:=im D.aJ.2 a b;unfold a8.other;rw[e2.1,e2.2];split
    ·exact .inr rfl
    ·exact .inl rfl
   obtain⟨l1,l2,l3,l4,l5,l6⟩:=b2.lim
   have x7: ∀j:Int,0≤j→j<n→D'.sec (first+j)=D.aJ.2.sec (first+j):=fun j j0 j1=>by
    refine p4 _ (by omega) (by omega) (fun e=>?_);rcases Zx with e2|e2
    ·exact l5 (by rw[←e2,←e];exact⟨by omega,by omega⟩)
    ·exact l6 (by rw[←e2,←e];exact⟨by omega,by omega⟩)
   refine⟨D',rZ,?_,?_⟩
   ·rw[jP _ p1];dsimp only;rw[if_pos rfl];unfold aU.cut;rw[p3];dsimp only;have:(⟨first,n,(aF D.aJ.2 a b).next (bL (fE m T rZ)),h,T,le,l⟩:aU).dP m=rZ:=apm;rw[this]
   ·have lj: ∀z:Int,D'.sec z=D'.k4 z:=fun z=>lz p2.es z
    have af2: ∀z:Int,D.aJ.2.sec z=D.aJ.2.k4 z:=fun z=>lz b1.es z
    have B9:Live {D' with dA:= -1} N:=⟨⟨p2.ok.n,p2.ok.sec,p2.ok.xE,p2.ok.keys,p2.ok.uniq,p2.ok.born,p2.ok.once,⟨Int.le_refl _,by show(-1:Int)≤_;omega⟩⟩,p2.len,p2.live,p2.es⟩;have hcu:Up {D' with dA:= -1} N:=⟨B9.ok,B9.len,B9.live,rfl⟩;have OQ:=b2.We hk (D':={D' with dA:= -1}) B9 hcu hm EF (by rw[←p3];rfl) x7;refine⟨hU,yq b2.aw hU b2.e,OQ.gen,OQ.hd,uM b2.aw hU b2.arg,OQ.h1,OQ.ht,OQ.t0,OQ.Cv,OQ.ll,OQ.ch,OQ.sl,Nat.le_refl _,⟨lj a,lj b⟩,OQ.ring,fun i x hi hx=>?_,fun j _ _ _=>lj _,fun j j0 j1 q t s hr=>?_,fun t s hr=>?_⟩
    ·rw[List.getElem?_eq_none (by omega)]at hx;cases hx
    ·rw[←lj,x7 j j0 j1,af2]at hr;have:=b2.old j j0 j1 q t s hr;refine⟨this.1,fun hq=>this.2 ?_⟩;have:((l.drop (m-h).toNat).length:Int)=l.length-(m-h):=by simp;omega
     omega
    ·rw[←lj]at hr;exact OQ.Js t s hr
  ·right
   refine⟨D',?_,p2.dead,.inr ⟨rZ,⟨⟨D.aJ.2,b2,b1,p2,hm,EF⟩⟩⟩⟩;rw[jP _ p1];dsimp only;rw[if_neg (by decide),b3]
 ·right
  exact⟨D.aJ.2,by rw[if_pos (by rw[b0];decide),b0],b1,.inl b2⟩
end Go.Sl