/- A part of the proof. -/
import Derived.Test.YtlignadmmopdmaaGreatGG
import Derived.Test.YtlignadmmopdmaaGreatGL
import Derived.Test.YtlignadmmopdmaaGreatUn
import Derived.Test.YtlignadmmopdmaaGreatGI
import Derived.Test.YtlignadmmopdmaaGreatGC
set_option linter.unusedVariables false
set_option linter.unusedSimpArgs false
set_option linter.constructorNameAsVariable false
namespace Go.Sl
theorem C5{r:RecM}(hr:r.may)(hl:(bL r).length<256)(x:Bytes):jL (dG (bL r)++x)=(r,true):=by
 have e4:(dG (bL r)++x)[4]? =some (UInt8.ofNat (bL r).length):=by simp[dG,Db]
 have en:(UInt8.ofNat (bL r).length).toNat=(bL r).length:=by rw[UInt8.toNat_ofNat'];omega
 have d4:(dG (bL r)++x).drop 4=UInt8.ofNat (bL r).length::(bL r++x):=by simp[dG,Db]
 have d5:(dG (bL r)++x).drop 5=bL r++x:=by simp[dG,Db]
 unfold jL;rw[e4,Option.getD_some,en,if_neg (by rw[List.length_append,nV];omega),d4,d5];have t5:(UInt8.ofNat (bL r).length::(bL r++x)).take ((bL r).length+1)=UInt8.ofNat (bL r).length::bL r:=by simp
 have t6:(bL r++x).take (bL r).length=bL r:=by simp
 have es:kE (dG (bL r)++x)=lY (UInt8.ofNat (bL r).length::bL r):=by
  unfold dG;rw[List.append_assoc];exact Ba (w5 _) _
 rw[t5,t6,es,if_pos rfl,lC (nF hr)];rfl
def lu(q t:Int)(s:Bytes):RecM:=⟨2,[q,t],[s]⟩
def fE(h t l:Int):RecM:=⟨3,[h,t,l],[]⟩
def vu(r:RecM):Bool:=decide (r.kind=2)&&decide ((r.aH.length:Int)=2)&&decide ((r.texts.length:Int)=1)&&decide (((r.texts.getD 0 []).length:Int)≤110)
def pP(b:Bytes):Bool:=(jL b).2&&vu (jL b).1
def gN(b:Bytes):Option (Int × Int × Bytes):=if pP b=true then some ((jL b).1.aH.getD 0 0,(jL b).1.aH.getD 1 0,(jL b).1.texts.getD 0 [])else none
def wJ(n:Int):Prop:=0≤n∧n≤4611686018427388416
theorem yS{q t:Int}{s:Bytes}(hq:wJ q)(ht:wJ t)(hs:s.length≤110):(lu q t s).may:=by
 obtain⟨a,b⟩:=hq;obtain⟨c,d⟩:=ht;refine⟨by simp[lu],by simp[lu],by simp[lu],by simp[lu],fun x hx=>?_,fun n hn=>?_⟩
 ·simp only[lu,List.mem_cons,List.not_mem_nil,or_false]at hx;subst hx;omega
 ·simp only[lu,List.mem_cons,List.not_mem_nil,or_false]at hn;rcases hn with rfl|rfl<;>omega
theorem yR{q t:Int}{s:Bytes}(hq:wJ q)(ht:wJ t)(hs:s.length≤110):(bL (lu q t s)).length≤133:=by
 have h:=nC (yS hq ht hs).num;have e:(lu q t s).aH.length=2:=rfl;rw[e]at h;have e2:(fJ (lu q t s).texts).length=1+s.length:=by simp[lu,fJ];omega
 simp only[bL,List.length_cons,List.length_append,e2];omega
theorem uG{h t l:Int}(hh:wJ h)(ht:wJ t)(hl:wJ l):(fE h t l).may:=by
 obtain⟨a,b⟩:=hh;obtain⟨c,d⟩:=ht;obtain⟨e,f⟩:=hl;refine⟨by simp[fE],by simp[fE],by simp[fE],by simp[fE],fun x hx=>by simp[fE]at hx,fun n hn=>?_⟩;simp only[fE,List.mem_cons,List.not_mem_nil,or_false]at hn;rcases hn with rfl|rfl|rfl<;>omega
theorem qe{h t l:Int}(hh:wJ h)(ht:wJ t)(hl:wJ l):(bL (fE h t l)).length≤100:=by
 have h1:=nC (uG hh ht hl).num;have e:(fE h t l).aH.length=3:=rfl;rw[e]at h1;have e2:fJ (fE h t l).texts=[]:=rfl;simp only[bL,List.length_cons,List.length_append,e2,List.length_nil];omega
def sL(q t:Int)(s:Bytes):Bytes:=dG (bL (lu q t s))
theorem Tu{q t:Int}{s:Bytes}(hq:wJ q)(ht:wJ t)(hs:s.length≤110):(sL q t s).length≤138:=by
 have:=yR hq ht hs;unfold sL;rw[nV];omega
theorem Rr{q t:Int}{s:Bytes}(hq:wJ q)(ht:wJ t)(hs:s.length≤110)(x:Bytes):gN (sL q t s++x)=some (q,t,s):=by
 have hl:=yR hq ht hs;have e:=C5 (yS hq ht hs) (by omega) x;unfold gN pP sL;rw[e,if_pos]
 · rfl
 · simp[vu,lu];omega
theorem Bd{q t:Int}{s:Bytes}(hq:wJ q)(ht:wJ t)(hs:s.length≤110):gN (pad (sL q t s))=some (q,t,s):=Rr hq ht hs _
theorem rM:gN g8=none:=by
 have e4:g8[4]? =some 0:=by decide
 have e:jL g8=(⟨0,[],[]⟩,false)∨(jL g8).1.kind=0:=by
  unfold jL;rw[e4,Option.getD_some,show(0:UInt8).toNat=0 from rfl,if_neg (by simp[g8])];have h0:bX ((g8.drop 5).take 0)=(⟨0,[],[]⟩,4):=iv (rO (by simp));rw[h0];split
  · exact .inr rfl
  · exact .inl rfl
 unfold gN pP vu;rcases e with e|e
 ·rw[e];rfl
 ·rw[e,if_neg];simp
theorem Rs{b:Bytes}{q t:Int}{s:Bytes}(h:gN b=some (q,t,s)):s.length≤110:=by
 unfold gN at h;split at h
 ·rename_i hk
  unfold pP vu at hk;simp only[Bool.and_eq_true,decide_eq_true_eq]at hk;simp only[Option.some.injEq,Prod.mk.injEq]at h;obtain⟨_,_,rfl⟩:=h;omega
 ·cases h
structure aU where
 first:Int
 n:Nat
 c:a8
 head:Int
 time:Int
 least:Int
 l:List (Bytes × Int)
def aU.tail(L:aU):Int:=L.head+L.l.length
def aU.place(L:aU)(k:Int):Int:=L.first+k % L.n
def aU.put(L:aU)(D:az)(head least:Int):Int × aU × az:=
 ((L.c.put D (bL (fE head L.time least))).1,{L with c:=(L.c.put D (bL (fE head L.time least))).2.1},(L.c.put D (bL (fE head L.time least))).2.2)
def aU.append(L:aU)(D:az)(s:Bytes):Int × aU × az:=
 if 110<(s.length:Int)then(3,L,D)else if(L.n:Int)-L.l.length=0 then(12,L,D)else if 4611686018427387904≤L.tail then(23,L,D)else
 ((D.write (L.place L.tail) (sL L.tail L.time s)).1,if(D.write (L.place L.tail) (sL L.tail L.time s)).1=0 then{L with l:=L.l++[(s,L.time)]}else L,(D.write (L.place L.tail) (sL L.tail L.time s)).2)
def aU.dP(L:aU)(k:Int):Int:=if L.head<k then(L.l.getD (k-L.head- 1).toNat ([],0)).2 else L.least
def aU.cut(L:aU)(k:Int):aU:={L with l:=L.l.drop (k-L.head).toNat,head:=k,least:=L.dP k}
def aU.trim(L:aU)(D:az)(k:Int):Int × aU × az:=
 if aI k L.head L.tail=false then(1,L,D)else
 if D.aJ.1≠0 then(D.aJ.1,L,D.aJ.2)else
 ((L.put D.aJ.2 k (L.dP k)).1,if(L.put D.aJ.2 k (L.dP k)).1=0 then(L.put D.aJ.2 k (L.dP k)).2.1.cut k else(L.put D.aJ.2 k (L.dP k)).2.1,(L.put D.aJ.2 k (L.dP k)).2.2)
def xW(t:Bytes):Bool:=decide ((bX t).2=0)&&decide ((bX t).1.kind=3)&&decide (((bX t).1.aH.length:Int)=3)&&decide (((bX t).1.texts.length:Int)=0)&&
 aI ((bX t).1.aH.getD 0 0) 1 4611686018427387904&&aI ((bX t).1.aH.getD 1 0) 0 4611686018427387904&&aI ((bX t).1.aH.getD 2 0) 0 4611686018427387904
def dH(t:Bytes):Int × Int × Int:=if xW t=true then((bX t).1.aH.getD 0 0,(bX t).1.aH.getD 1 0,(bX t).1.aH.getD 2 0)else(1,0,0)
def fI(D:az)(first:Int)(n:Nat)(time:Int):Nat→Int→Int→List (Bytes × Int)
 |0,_,_=>[]
 |f+1,tail,lo=>match gN (D.sec (first+tail % n))with
  |some (q,t,s)=>if q=tail∧lo≤t∧t≤time then(s,t)::fI D first n time f (tail+1) t else []
  |none=>[]
def eN(first n s:Int):Prop:=first≤s∧s-first<n
instance (first n s:Int):Decidable (eN first n s):=inferInstanceAs (Decidable (_∧_))
def eO(D:az)(first n a b:Int):Prop:=n<2∨first<0∨(D.l.length:Int)<n∨(D.l.length:Int)-n<first∨eN first n a∨eN first n b
instance (D:az)(first n a b:Int):Decidable (eO D first n a b):=inferInstanceAs (Decidable (_∨_))
def kC(D:az)(first:Int)(n:Nat)(a b:Int):aU:=
 ⟨first,n,aF D a b,(dH (aF D a b).text).1,(dH (aF D a b).text).2.1+1,(dH (aF D a b).text).2.2,
  fI D first n (dH (aF D a b).text).2.1 n (dH (aF D a b).text).1 (dH (aF D a b).text).2.2⟩
def bh(D:az)(first n a b:Int):Int × aU × az:=
 if eO D first n a b then(1,kC D first n.toNat a b,D)else if cg D a b≠0 then(cg D a b,kC D first n.toNat a b,D)else
 if(dH (aF D a b).text).2.1=4611686018427387904 then(22,kC D first n.toNat a b,D)else
 (kC D first n.toNat a b).put D (kC D first n.toNat a b).head (kC D first n.toNat a b).least
theorem AM(t:Bytes):(1≤(dH t).1∧(dH t).1≤4611686018427387904)∧(0≤(dH t).2.1∧(dH t).2.1≤4611686018427387904)∧(0≤(dH t).2.2∧(dH t).2.2≤4611686018427387904):=by
 unfold dH;split
 ·rename_i h
  unfold xW aI at h;simp only[Bool.and_eq_true,decide_eq_true_eq]at h;dsimp only;omega
 ·exact⟨by decide,by decide,by decide⟩
theorem xV{h t l:Int}(hh:1≤h∧h≤4611686018427387904)(ht:0≤t∧t≤4611686018427387904)(hl:0≤l∧l≤4611686018427387904):dH (bL (fE h t l))=(h,t,l):=by
 have e:bX (bL (fE h t l))=(fE h t l,0):=lC (nF (uG ⟨by omega,by omega⟩ ⟨by omega,by omega⟩ ⟨by omega,by omega⟩));unfold dH xW;rw[e,if_pos]
 · rfl
 · simp[fE,aI];omega
theorem Hy:dH []=(1,0,0):=rfl
structure aU.ok(L:aU)(D:az):Prop where
 n:2≤L.n
 first:0≤L.first∧L.first+L.n≤D.l.length
 c:L.c.ok D.l.length
 head:1≤L.head
 time:0≤L.time∧L.time≤4611686018427387904
 least:0≤L.least∧L.least≤4611686018427387904
 l:L.l.length≤L.n
 M9: ∀x∈L.l,x.1.length≤110∧0≤x.2∧x.2≤4611686018427387904
 tail:L.tail≤4611686018427387904+L.n
 d:D.ok
theorem Bk{D:az}{first:Int}{n:Nat}{time:Int}: ∀(f:Nat) (tail lo:Int),(fI D first n time f tail lo).length≤f
 |0,_,_=>Nat.le_refl _
 |f+1,tail,lo=>by
  unfold fI;split
  ·split
   ·rename_i q t s _ _
    have:=Bk (D:=D) (first:=first) (n:=n) (time:=time) f (tail+1) t;simp only[List.length_cons];omega
   ·simp
  ·simp
theorem Bj{D:az}{first:Int}{n:Nat}{time:Int}: ∀(f:Nat) (tail lo:Int),0≤lo→ ∀x∈fI D first n time f tail lo,x.1.length≤110∧0≤x.2∧x.2≤time
 |0,_,_,_,x,hx=>by cases hx
 |f+1,tail,lo,h0,x,hx=>by
  unfold fI at hx;split at hx
  ·rename_i q t s hr
   split at hx
   ·rename_i hc
    rcases List.mem_cons.1 hx with rfl|hx
    · exact⟨Rs hr,by omega,by omega⟩
    · exact Bj f (tail+1) t (by omega) x hx
   ·cases hx
  ·cases hx
theorem JU{D:az}{first a b:Int}{n:Nat}(hD:D.ok)(ha: ¬eO D first n a b)(he:cg D a b=0)(ht:(dH (aF D a b).text).2.1≠4611686018427387904):(kC D first n a b).ok D:=by
 obtain⟨h1,h2,h3⟩:=AM (aF D a b).text;unfold eO at ha;have hl:=Bk (D:=D) (first:=first) (n:=n) (time:=(dH (aF D a b).text).2.1) n (dH (aF D a b).text).1 (dH (aF D a b).text).2.2;refine⟨by show 2≤n;omega,⟨by show 0≤first;omega,by show first+n≤_;omega⟩,(eW he).1,h1.1,⟨by simp only[kC];omega,by simp only[kC];omega⟩,h3,hl,fun x hx=>?_,?_,hD⟩
 ·have:=Bj n _ _ h3.1 x hx;exact⟨this.1,this.2.1,by omega⟩
 ·unfold aU.tail kC;dsimp only;omega
theorem aU.mO{L:aU}{D:az}(h:L.ok D)(head least:Int):(L.put D head least).2.1.ok (L.put D head least).2.2:=by
 have hp:=Go.Sl.mO h.c h.d (bL (fE head L.time least));unfold aU.put;refine⟨h.n,?_,?_,h.head,h.time,h.least,h.l,h.M9,h.tail,hp.2⟩
 · dsimp only;rw[vO];exact h.first
 · dsimp only;rw[vO];exact hp.1
theorem aU.Ku{L:aU}{D:az}(h:L.ok D)(s:Bytes):(L.append D s).2.1.ok (L.append D s).2.2:=by
 unfold aU.append;split
 ·exact h
 ·split
  ·exact h
  ·split
   ·exact h
   ·rename_i h1 h2 h3
    have hw:=az.jN h.d (L.place L.tail) (sL L.tail L.time s);dsimp only;split
    ·refine⟨h.n,by rw[kq];exact h.first,by rw[kq];exact h.c,h.head,h.time,h.least,?_,fun x hx=>?_,?_,hw⟩
     ·have:=h.l;simp only[List.length_append,List.length_singleton];omega
     ·dsimp only at hx;rcases List.mem_append.1 hx with hx|hx
      ·exact h.M9 x hx
      ·simp only[List.mem_singleton]at hx;subst hx;exact⟨by dsimp only;omega,h.time.1,h.time.2⟩
     ·unfold aU.tail at h3 ⊢;have:=h.n;simp only[List.length_append,List.length_singleton];omega
    ·exact⟨h.n,by rw[kq];exact h.first,by rw[kq];exact h.c,h.head,h.time,h.least,h.l,h.M9,h.tail,hw⟩
theorem rE{L:aU}{D:az}(h:L.ok D){k:Int}(hk:k≤L.tail):0≤L.dP k∧L.dP k≤4611686018427387904:=by
 unfold aU.dP;split
 ·rename_i EH
  unfold aU.tail at hk;have hg:L.l[(k-L.head- 1).toNat]? =some (L.l.getD (k-L.head- 1).toNat ([],0)):=gK (by omega);have:=h.M9 _ (List.mem_of_getElem? hg);exact this.2
 ·exact h.least
theorem aU.VK{L:aU}{D:az}(h:L.ok D)(k:Int):(L.trim D k).2.1.ok (L.trim D k).2.2:=by
 unfold aU.trim;have hb:L.ok D.aJ.2:=⟨h.n,by rw[fA];exact h.first,by rw[fA];exact h.c,h.head,h.time,h.least,h.l,h.M9,h.tail,az.gA h.d⟩;split
 ·exact h
 ·rename_i hw
  have sS:L.head≤k∧k≤L.tail:=ca.1 (by simpa using hw);split
  ·exact hb
  ·dsimp only;have hp:=aU.mO hb k (L.dP k);split
   ·have Cd:=rE h sS.2;have Gi:=h.tail;have hh:=h.head;refine⟨hp.n,hp.first,hp.c,?_,hp.time,Cd,?_,fun x hx=>hp.M9 x (List.mem_of_mem_drop hx),?_,hp.d⟩
    ·show 1≤k;omega
    ·show(L.l.drop _).length≤L.n;have:=h.l;simp only[List.length_drop];omega
    ·show k+((L.l.drop (k-L.head).toNat).length:Int)≤4611686018427387904+(L.n:Int);unfold aU.tail at Gi sS;simp only[List.length_drop];omega
   ·exact hp
theorem th(b0 b1 b2 b3 b4:UInt8)(r:Bytes):pP (b0::b1::b2::b3::b4::r)=(!decide (r.length+5<b4.toNat+5)&&(decide (lY ((b4::r).take (b4.toNat+1))=kE (b0::b1::b2::b3::b4::r))&&(decide ((bX (r.take b4.toNat)).2=0)&&vu (bX (r.take b4.toNat)).1))):=by
 unfold pP;rw[Bt]
 by_cases h1:r.length+5<b4.toNat+5
 ·rw[if_pos h1];simp[h1]
 ·rw[if_neg h1]
  by_cases h2:lY ((b4::r).take (b4.toNat+1))=kE (b0::b1::b2::b3::b4::r)
  · rw[if_pos h2,decide_eq_false h1,decide_eq_true h2];rfl
  · rw[if_neg h2,decide_eq_false h1,decide_eq_false h2];rfl
def Sm(b0 b1 b2 b3 b4:UInt8)(r:Bytes)(rc:RecM)(er:Int):Prop:=
 ¬lY ((b4::r).take (b4.toNat+1))=kE (b0::b1::b2::b3::b4::r)∨ ¬er=0∨ ¬rc.kind=2∨ ¬(rc.aH.length:Int)=2∨ ¬(rc.texts.length:Int)=1
theorem QK{b0 b1 b2 b3 b4:UInt8}{r:Bytes}(h: ¬r.length+5<b4.toNat+5):
  (Sm b0 b1 b2 b3 b4 r (bX (r.take b4.toNat)).1 (bX (r.take b4.toNat)).2→pP (b0::b1::b2::b3::b4::r)=false)∧
  (¬Sm b0 b1 b2 b3 b4 r (bX (r.take b4.toNat)).1 (bX (r.take b4.toNat)).2→pP (b0::b1::b2::b3::b4::r)=decide ((((bX (r.take b4.toNat)).1.texts.getD 0 []).length:Int)≤110))∧
  (pP (b0::b1::b2::b3::b4::r)=true→(jL (b0::b1::b2::b3::b4::r)).1=(bX (r.take b4.toNat)).1):=by
 refine⟨fun hu=>?_,fun hu=>?_,fun hk=>?_⟩
 ·rw[th];unfold Sm at hu;unfold vu;rcases hu with h1|h1|h1|h1|h1<;>rw[decide_eq_false h1]<;>simp only[Bool.false_and,Bool.and_false]
 ·rw[th];unfold Sm at hu;unfold vu;rw[decide_eq_false h,decide_eq_true (p:=lY _=_) (by omega),decide_eq_true (p:=(bX _).2=0) (by omega),decide_eq_true (p:=(bX _).1.kind=2) (by omega),decide_eq_true (p:=(_:Int)=2) (by omega),decide_eq_true (p:=(_:Int)=1) (by omega)];simp
 ·rw[th]at hk;simp only[Bool.and_eq_true,decide_eq_true_eq,Bool.not_eq_true',decide_eq_false_iff_not]at hk;rw[Bt,if_neg h,if_pos hk.2.1]
theorem qa{r:RecM}(h:r.may):kQ r=(bL r,0):=by unfold kQ;rw[if_pos (JV h)]
theorem Hw(l:List Bytes):l.headD []=l.getD 0 []:=by cases l<;>rfl
theorem Mj{b0 b1 b2 b3 b4:UInt8}{r:Bytes}(h:r.length+5<b4.toNat+5):pP (b0::b1::b2::b3::b4::r)=false:=by
 rw[th,decide_eq_true h];rfl
theorem IG{b:Bytes}(h:pP b=true):gN b=some ((jL b).1.aH.getD 0 0,(jL b).1.aH.getD 1 0,(jL b).1.texts.getD 0 []):=by
 unfold gN;rw[if_pos h]
theorem IF{b:Bytes}(h:pP b=false):gN b=none:=by
 unfold gN;rw[if_neg (by rw[h];decide)]
theorem QL{b:Bytes}(h:pP b=true):(jL b).1.aH.length=2∧(jL b).1.texts.length=1:=by
 unfold pP vu at h;simp only[Bool.and_eq_true,decide_eq_true_eq]at h;omega
def dI(l:List (Bytes × Int)):List Value:=(l.map fun x=>[Value.string ⟨x.1.toArray⟩,.int .i64 x.2]).flatten
theorem rB(l:List (Bytes × Int)):(dI l).length=l.length*2:=by
 induction l with
 |nil=>rfl
 |cons x l ih=>simp only[dI,List.map_cons,List.flatten_cons,List.length_append,List.length_cons,List.length_nil]at ih ⊢;omega
theorem ye(l m:List (Bytes × Int)):dI (l++m)=dI l++dI m:=by simp[dI]
theorem rC(l:List (Bytes × Int)): ∀u∈dI l,u.oneCell'=true:=by
 intro u hu;simp only[dI,List.mem_flatten,List.mem_map]at hu;obtain⟨x,⟨y,_,rfl⟩,hx⟩:=hu;simp at hx;rcases hx with rfl|rfl<;>rfl
theorem pH(l:List (Bytes × Int))(k:Nat):(dI l).drop (k*2)=dI (l.drop k):=by
 induction k generalizing l with
 |zero=>simp
 |succ k ih=>
  cases l with
  |nil=>simp[dI]
  |cons x l=>
   have:dI (x::l)=Value.string ⟨x.1.toArray⟩::Value.int .i64 x.2::dI l:=by simp[dI]
   rw[this,show(k+1)*2=k*2+2 by omega,List.drop_succ_cons,List.drop_succ_cons,List.drop_succ_cons,ih]
theorem ES{l:List (Bytes × Int)}{k:Nat}{x:Bytes × Int}(h:l[k]? =some x):(dI l)[k*2+1]? =some (.int .i64 x.2):=by
 have e:=pH l k;have:(dI l)[k*2+1]? =((dI l).drop (k*2))[1]? :=by rw[List.getElem?_drop]
 rw[this,e,List.drop_eq_getElem_cons (by exact(List.getElem?_eq_some_iff.1 h).1)];obtain⟨h1,h2⟩:=List.getElem?_eq_some_iff.1 h;rw[h2];rfl
theorem Pm{l:List (Bytes × Int)}{k:Nat}{x:Bytes × Int}(h:l[k]? =some x):((dI l).drop (k*2)).take 2=[.string ⟨x.1.toArray⟩,.int .i64 x.2]:=by
 rw[pH,List.drop_eq_getElem_cons (by exact(List.getElem?_eq_some_iff.1 h).1)];obtain⟨h1,h2⟩:=List.getElem?_eq_some_iff.1 h;rw[h2];simp[dI]
theorem al0 [Env]{P:Program}{L:List ax}{size m:Nat}{v:Value}{vs:List Value}(h:cE L v m vs)(hl:vs.length=m*size):Src P L size v m vs:=by
 rcases h with⟨rfl,rfl,rfl⟩|⟨a,c,rfl,h3,h2⟩
 ·exact C3
 ·refine⟨hl,fun w hh=>⟨by simp[Builtin.lenOf],?_⟩⟩;refine run_firstCells_some w size m _ m c vs hl (fun j v hj=>?_)
  have MZ:j<vs.length:=by
   rcases Nat.lt_or_ge j vs.length with h|h
   · exact h
   · rw[List.getElem?_eq_none h]at hj;cases hj
  have hm:m≠0:=fun h0=>by rw[h0,Nat.zero_mul]at hl;omega
  have hs:=h3 hm;have:=h2 w hh j MZ;rw[List.getElem?_eq_getElem MZ]at hj;cases hj;cases a;simp at hs;subst hs;rw[add_lit];exact this
theorem AR{L:aU}{D:az}(h:L.ok D):L.l.length≤512:=by
 have:=h.l;have:=h.first;have:=h.d.n;omega
theorem aU.ah2{L:aU}{D:az}(h:L.ok D):L.n≤512:=by
 have:=h.first;have:=h.d.n;omega
theorem aU.Og{L:aU}{D:az}(h:L.ok D):L.first≤512:=by
 have:=h.first;have:=h.d.n;omega
theorem Hx{t:Bytes}{rc:RecM}{er:Int}(hd:bX t=(rc,er))(h: ¬er=0∨ ¬rc.kind=3∨ ¬(rc.aH.length:Int)=3∨ ¬(rc.texts.length:Int)=0∨aI (rc.aH.getD 0 0) 1 4611686018427387904=false∨aI (rc.aH.getD 1 0) 0 4611686018427387904=false∨aI (rc.aH.getD 2 0) 0 4611686018427387904=false):
  dH t=(1,0,0):=by
 unfold dH;rw[if_neg];unfold xW;rw[hd];intro hk;simp only[Bool.and_eq_true,decide_eq_true_eq]at hk;obtain⟨⟨⟨⟨⟨⟨h1,h2⟩,h3⟩,h4⟩,h5⟩,h6⟩,h7⟩:=hk;rcases h with h|h|h|h|h|h|h
 ·exact h h1
 ·exact h h2
 ·exact h h3
 ·exact h h4
 ·rw[h5]at h;cases h
 ·rw[h6]at h;cases h
 ·rw[h7]at h;cases h
theorem Ey{t:Bytes}{rc:RecM}{er:Int}(hd:bX t=(rc,er))(h1:er=0)(h2:rc.kind=3)(h3:(rc.aH.length:Int)=3)(h4:(rc.texts.length:Int)=0)(h5:aI (rc.aH.getD 0 0) 1 4611686018427387904=true)(h6:aI (rc.aH.getD 1 0) 0 4611686018427387904=true)(h7:aI (rc.aH.getD 2 0) 0 4611686018427387904=true):
  dH t=(rc.aH.getD 0 0,rc.aH.getD 1 0,rc.aH.getD 2 0):=by
 unfold dH;rw[if_pos]
 ·rw[hd]
 ·unfold xW;rw[hd];simp only[Bool.and_eq_true,decide_eq_true_eq];exact⟨⟨⟨⟨⟨⟨h1,h2⟩,h3⟩,h4⟩,h5⟩,h6⟩,h7⟩
theorem Kg{D:az}{first:Int}{n:Nat}{time:Int}{f:Nat}{tail lo q t:Int}{s:Bytes}(h:gN (D.sec (first+tail % n))=some (q,t,s))(hq:q=tail)(h1:lo≤t)(h2:t≤time):
  fI D first n time (f+1) tail lo=(s,t)::fI D first n time f (tail+1) t:=by
 rw[fI,h];dsimp only;rw[if_pos ⟨hq,h1,h2⟩]
theorem Kh{D:az}{first:Int}{n:Nat}{time:Int}{f:Nat}{tail lo:Int}(h:gN (D.sec (first+tail % n))=none):fI D first n time f tail lo=[]:=by
 cases f with
 |zero=>rfl
 |succ f=>rw[fI,h]
theorem yY{D:az}{first:Int}{n:Nat}{time:Int}{f:Nat}{tail lo q t:Int}{s:Bytes}(h:gN (D.sec (first+tail % n))=some (q,t,s))(hc: ¬(q=tail∧lo≤t∧t≤time)):
  fI D first n time f tail lo=[]:=by
 cases f with
 |zero=>rfl
 |succ f=>rw[fI,h];dsimp only;rw[if_neg hc]
theorem aU.NB{L:aU}{D:az}(h:L.ok D):L.ok D.aJ.2:=⟨h.n,by rw[fA];exact h.first,by rw[fA];exact h.c,h.head,h.time,h.least,h.l,h.M9,h.tail,az.gA h.d⟩
theorem PC{D:az}{N:Nat}{a b:Int}{s:Bytes}(hU:Up D N)(hE:cg D a b=0)(hs:s.length≤100)(hg:(aF D a b).gen<4611686018427387904):
  ∃D',(aF D a b).put D s=(0,(aF D a b).next s,D')∧Up D' N∧D'.es=[]∧aF D' a b=(aF D a b).next s∧ ∀j:Int,0≤j→j<N→j≠a→j≠b→D'.sec j=D.sec j:=by
 have hC:=(eW hE).1;rw[hU.len]at hC;obtain⟨D',h1,h2⟩:=Fu hU hC hs hg;exact⟨D',h1,h2.up,h2.es,Ml hU.len hE hs hg h2,fun j h0 hj ha hb=>Rg h2 h0 hj ha hb⟩
theorem PB{D D':az}{N:Nat}{a b:Int}(h:Up D N)(h':Up D' N)(he:cg D a b=0):cg D' a b=0:=by
 unfold cg at he ⊢;rw[h.len]at he;rw[h'.len]
 by_cases c:a=b∨min a b<0∨(N:Int)≤max a b
 · rw[if_pos c]at he;cases he
 · rw[if_neg c,if_neg (by rw[h'.live];decide)]
theorem aal{D D':az}{N:Nat}{f n a b:Int}(h:Up D N)(h':Up D' N)(he: ¬eO D f n a b): ¬eO D' f n a b:=by
 unfold eO at he ⊢;rw[h'.len,←h.len];exact he
def chain:Int→List (Bytes × Int)→Int→Prop
 |lo,[],hi=>lo≤hi
 |lo,x::l,hi=>lo≤x.2∧chain x.2 l hi
theorem iR: ∀{l:List (Bytes × Int)} {lo hi:Int},chain lo l hi→lo≤hi
 | [],_,_,h=>h
 |_::_,_,_,h=>Int.le_trans h.1 (iR h.2)
theorem DI: ∀{l:List (Bytes × Int)} {lo hi SB:Int},chain lo l hi→hi≤SB→chain lo l SB
 | [],_,_,_,h,h2=>Int.le_trans h h2
 |_::_,_,_,_,h,h2=>⟨h.1,DI h.2 h2⟩
theorem xq: ∀{l:List (Bytes × Int)} {lo hi:Int} {s:Bytes},chain lo l hi→chain lo (l++[(s,hi)]) hi
 | [],_,_,_,h=>⟨h,Int.le_refl _⟩
 |_::_,_,_,_,h=>⟨h.1,xq h.2⟩
theorem lA: ∀{l:List (Bytes × Int)} {lo hi:Int},chain lo l hi→ ∀x∈l,lo≤x.2∧x.2≤hi
 | [],_,_,_,_,hx=>by cases hx
 |y::l,lo,hi,h,x,hx=>by
  rcases List.mem_cons.1 hx with rfl|hx
  ·exact⟨h.1,iR h.2⟩
  ·have:=lA h.2 x hx;exact⟨by have:=h.1;omega,this.2⟩
theorem xp: ∀{l:List (Bytes × Int)} {lo hi:Int} (j:Nat),chain lo l hi→chain (if 0<j then(l.getD (j- 1) ([],0)).2 else lo) (l.drop j) hi∨l.length<j
 |l,lo,hi,0,h=> .inl h
 | [],lo,hi,j+1,h=> .inr (by simp)
 |y::l,lo,hi,j+1,h=>by
  rcases xp (l:=l) j h.2 with h2|h2
  ·left
   rw[if_pos (by omega),List.drop_succ_cons];cases j with
   |zero=>exact h2
   |succ j=>rw[if_pos (by omega)]at h2;exact h2
  ·right;simp only[List.length_cons];omega
structure am5(first:Int)(n:Nat)(a b:Int)(D:az)(N k:Nat)(h t le:Int)(l:List (Bytes × Int)):Prop where
 up:Up D N
 e:cg D a b=0
 gen:(aF D a b).gen≤k
 hd:dH (aF D a b).text=(h,t,le)
 arg: ¬eO D first n a b
 h1:1≤h
 ht:h+l.length≤1+k
 t0:0≤t∧t≤k
 Cv:0≤le
 ll:l.length≤n
 ch:chain le l t
 sl: ∀x∈l,x.1.length≤110
 ring: ∀(i:Nat) (x:Bytes × Int),l[i]? =some x→D.sec (first+(h+i) % n)=pad (sL (h+i) x.2 x.1)
 old: ∀j:Int,0≤j→j<n→ ∀q t s,gN (D.sec (first+j))=some (q,t,s)→q<h+l.length
theorem Qd{N n:Nat}{first a b:Int}(hN:N≤512)(hn:2≤n)(hf:0≤first∧first+n≤N)(uF:a≠b)(ha:0≤a∧a<N)(hb:0≤b∧b<N)(hra: ¬eN first n a)(T9: ¬eN first n b):am5 first n a b (az.new N) N 0 1 0 0 []:=by
 have hU:=Qe hN;have ho:=Fl (n:=N) ha.1 ha.2 hb.1 hb.2;refine⟨hU,nD hU uF ha hb,by rw[ho];exact Int.le_refl _,by rw[ho];exact Hy,?_,Int.le_refl _,by simp,⟨Int.le_refl _,Int.le_refl _⟩,Int.le_refl _,Nat.zero_le _,Int.le_refl _,fun x hx=>(by cases hx),fun i x hx=>(by simp at hx),fun j h0 h1 q t s hq=>?_⟩
 ·unfold eO;rw[hU.len];rintro(h|h|h|h|h|h)
  · omega
  · omega
  · omega
  · omega
  · exact hra h
  · exact T9 h
 ·rw[CV (n:=N) (by omega) (by omega),rM]at hq;cases hq
theorem Jk{x y:Int}{n:Nat}(h1:x<y)(h2:y-x<n):x % (n:Int)≠y % (n:Int):=by
 intro e
 have hd:(n:Int)∣y-x:=by
  have:=Int.emod_emod_of_dvd (y-x) (Int.dvd_refl (n:Int));exact Int.dvd_of_emod_eq_zero (by rw[Int.sub_emod,e,Int.sub_self,Int.zero_emod])
 have:=Int.le_of_dvd (by omega) hd;omega
end Go.Sl
namespace Go.Proofs
open _root_.Go.Proofs.Tryz
open Go Go.Sl
namespace W
theorem ov(r:RecM)(sn st:Sv): ∀u∈[i64 r.kind,aG sn r.aH.length,aG st r.texts.length],u.oneCell'=true:=by
 intro u hu;simp at hu;rcases hu with rfl|rfl|rfl
 · rfl
 · cases sn<;>rfl
 cases st<;>rfl
theorem s3 [Env]{R:List ax}{n lo hi:Int}:bC Tryz.prog 136 [i64 n,i64 lo,i64 hi] [] R (Is (.bool (aI n lo hi)) []):=by
 refine ag func136 ntmps136 rfl rfl ?_;refine gc 9 ?_;refine cv 10 rfl (fun h6=>?_) (fun h6=>?_)
 ·refine gy 8 ?_;refine aj results136 rfl (L1:=[]++R) ae ?_;exact⟨_,⟨by unfold aI;(rw[decide_eq_true (show lo≤n by omega)];rfl),rfl⟩,rfl⟩
 refine gy 8 ?_;refine aj results136 rfl (L1:=[]++R) ae ?_;exact⟨_,⟨by unfold aI;(rw[decide_eq_false (show¬lo≤n by omega)];rfl),rfl⟩,rfl⟩
theorem sZ [Env]{R:List ax}{r:RecM}{nv tv:Value}(hn:cE R nv r.aH.length (aW r.aH))(ht:cE R tv r.texts.length (cn r.texts))(dj:r.may)(hlen:(bL r).length≤200):
   bC Tryz.prog 238 [.agg #[i64 r.kind,nv,tv]] [] R (zx 5 (dG (bL r)).length 1 (av (dG (bL r))) []):=by
 have iW:=qa dj;refine ag func238 ntmps238 rfl rfl ?_;refine gc 1 ?_;refine ya (a7 (vs:=[i64 r.kind,nv,tv]) rfl rfl) rfl ?_;rintro v L' ⟨b1,rfl,rfl⟩;refine gy 4 ?_;refine y (ay (u:=[i64 r.kind,nv,tv]) rfl isAgg88 sizeOf88 aL rfl rfl) rfl ?_;refine aA (p6 (r:=r) ?apv ?apO ?ata) rfl call94 aZ rfl ?_
 case apv=>exact hn.mono ae
 case apO=>exact ht.mono ae
 case ata=>exact dj.num
 rintro v L' ⟨s8,rfl,Ve,rfl⟩;rw[iW]at Ve ⊢;dsimp only at Ve ⊢;generalize bL r=rb at*;refine gy 9 ?_;refine y (bH rfl underlying55 (by assumption)) rfl ?_;refine y (aR rfl underlying3 underlying5) rfl ?_;rw[r4,show((rb.length:Nat):Int) % 256=((rb.length:Nat):Int)by omega];refine ya (aE rfl underlying55 sizeOf5 zeroValue5 rfl rfl rfl rfl ⟨⟨_,_,rfl,(by rfl),(by decide)⟩,trivial⟩ (by dsimp[bt,aX,aY,bS]<;>rfl)) rfl ?_;rintro v L' ⟨b14,rfl,rfl⟩;refine gy 1 ?_;refine ya (aO (s:=some (b14,1,[])) (xs:=[.int .u8 ((rb.length:Nat):Int)]) (m:=1) (k:=rb.length) (us:=av rb) (size:=1) rfl rfl (by repeat first|exact .z|apply Pk.s) underlying55 underlying55 (by intro q hq;cases hq) typeInfo5 rfl rfl rfl ?arc ?alK ?aj2 ?ad2) rfl ?_
 case arc=>exact⟨Nat.le_refl _,by decide,rfl,rfl⟩
 case alK=>exact rQ aL Ve
 case aj2=>exact cL _
 case ad2=>show(_+_)*2≤_;omega
 rintro v L' ⟨s16,rfl,Ir,rfl⟩;have sP:1+rb.length=(UInt8.ofNat rb.length::rb).length:=by simp;omega
 rw[show [Value.int .u8 ((rb.length:Nat):Int)]++av rb=av (UInt8.ofNat rb.length::rb)by simp[av];omega,sP]at Ir ⊢;have Ht:(UInt8.ofNat rb.length::rb).length≤201:=by simp;omega
 have Ez:dG rb=Db (lY (UInt8.ofNat rb.length::rb))++(UInt8.ofNat rb.length::rb):=rfl;generalize UInt8.ofNat rb.length::rb=rc at*;refine gy 5 ?_;refine bK (XS (bs:=rc) ?anm ?ahx) call145 ?_
 case anm=>exact bG aL Ir
 case ahx=>omega
 have iP:=w5 rc;generalize lY rc=su at*;refine gy 5 ?_;refine y (iI rfl rfl (by decide)) rfl ?_;rw[show((su:Nat):Int).fdiv (2^(min (24:Int).toNat IntKind.u32.bits))=((su / 16777216:Nat):Int)from m9 (k:=16777216)];refine y (aR rfl underlying173 underlying5) rfl ?_;rw[r4,show((su / 16777216:Nat):Int) % 256=((su / 16777216 % 256:Nat):Int)by omega];refine gy 1 ?_;refine y (iI rfl rfl (by decide)) rfl ?_;rw[show((su:Nat):Int).fdiv (2^(min (16:Int).toNat IntKind.u32.bits))=((su / 65536:Nat):Int)from m9 (k:=65536)];refine y (aR rfl underlying173 underlying5) rfl ?_;rw[r4,show((su / 65536:Nat):Int) % 256=((su / 65536 % 256:Nat):Int)by omega];refine gy 1 ?_;refine y (iI rfl rfl (by decide)) rfl ?_;rw[show((su:Nat):Int).fdiv (2^(min (8:Int).toNat IntKind.u32.bits))=((su / 256:Nat):Int)from m9 (k:=256)];refine y (aR rfl underlying173 underlying5) rfl ?_;rw[r4,show((su / 256:Nat):Int) % 256=((su / 256 % 256:Nat):Int)by omega];refine gy 1 ?_;refine y (aR rfl underlying173 underlying5) rfl ?_;rw[r4,show((su:Nat):Int) % 256=((su % 256:Nat):Int)by omega];refine ya (aE rfl underlying55 sizeOf5 zeroValue5 rfl rfl rfl rfl ⟨⟨_,_,rfl,(by rfl),(by decide)⟩,⟨⟨_,_,rfl,(by rfl),(by decide)⟩,⟨⟨_,_,rfl,(by rfl),(by decide)⟩,⟨⟨_,_,rfl,(by rfl),(by decide)⟩,trivial⟩⟩⟩⟩ (by dsimp[bt,aX,aY,bS]<;>rfl)) rfl ?_;rintro v L' ⟨b30,rfl,rfl⟩;refine gy 1 ?_;refine ya (aO (s:=some (b30,4,[])) (xs:=S5 su) (m:=4) (k:=rc.length) (us:=av rc) (size:=1) rfl rfl (by repeat first|exact .z|apply Pk.s) underlying55 underlying55 (by intro q hq;cases hq) typeInfo5 rfl rfl rfl ?Ff ?alN ?aj5 ?ad5) rfl ?_
 case Ff=>exact⟨Nat.le_refl _,by decide,rfl,rfl⟩
 case alN=>exact rQ aL Ir
 case aj5=>exact cL _
 case ad5=>show(_+_)*2≤_;omega
 rintro v L' ⟨s32,rfl,tg,rfl⟩;rw[Jg,←dD,show 4+rc.length=(Db su++rc).length by simp[Db];omega,←Ez]at tg ⊢;refine gy 4 ?_;refine aj results238 rfl (L1:=[aD _ _ _]++R) ae ?_;exact⟨_,⟨s32,rfl,tg,rfl⟩,rfl⟩
theorem ahr [Env]{R:List ax}{v:Value}{bs:Bytes}(hb:oD R v bs)(h5:5≤bs.length)(hl:bs.length≤1000):
   bC Tryz.prog 190 [v] [] R (fun u L'=> ∃rc sn st,u= .tuple #[tD rc sn st,.bool (pP bs)]∧I9 rc sn st∧(pP bs=true→(jL bs).1=rc)∧L'=jd rc sn st):=by
 obtain⟨z0,z1,z2,z3,z4,r,rfl⟩:=aff h5;have hv:=hb.rd;have Lv:=z0.toNat_lt;have Cc:=z1.toNat_lt;have AO:=z2.toNat_lt;have Zn:=z3.toNat_lt;have hl4:=z4.toNat_lt;have hlr:(z0::z1::z2::z3::z4::r).length=r.length+5:=rfl;refine ag func190 ntmps190 rfl rfl ?_;refine gc 1 ?_;refine ya (aB zeroValue88 rfl) rfl ?_;rintro v L' ⟨b2,rfl,rfl⟩;refine gy 5 ?_;refine y (aK hv rfl rfl underlying55 sizeOf5 (by omega) (by omega)) rfl ?_;refine y (au 4 hv ae rfl isAgg5 rfl rfl) rfl ?_;refine y (aR rfl underlying5 underlying3) rfl ?_;rw[wr (by omega) (by omega)];refine gy 7 ?_;rw[wr (by omega) (by omega)];refine gy 1 ?_;refine y (bu rfl underlying55 (cE.bo (by assumption))) rfl ?_;refine gy 3 ?_;refine cc rfl (fun TG=>?_) (fun TG=>?_)
 ·refine gc 1 ?_;have cq:=Mj (b0:=z0) (b1:=z1) (b2:=z2) (b3:=z3) (b4:=z4) (r:=r) (by omega);refine y (bU rfl) rfl ?_;refine bA (ai rfl rfl (ov ⟨0,[],[]⟩ none none) sizeOf88 bc (by rfl) (by rfl)) ?_;refine gy 5 ?_;refine cx results190 rfl rfl isAgg88 sizeOf88 aL (rfl) (L1:=jd ⟨0,[],[]⟩ none none++R) ae ?_;rw[cq];exact⟨_,⟨⟨0,[],[]⟩,none,none,rfl,⟨⟨rfl,rfl⟩,⟨rfl,rfl⟩⟩,fun h=>(by cases h),rfl⟩,rfl⟩
 have hle:z4.toNat≤r.length:=by omega
 have hd5:oD R (qB v 5 (5+z4.toNat) 1) (r.take z4.toNat):=by
   have:=hb.sl (lo:=5) (hi:=5+z4.toNat) (by omega) (by omega)
   rwa[show 5+z4.toNat- 5=z4.toNat by omega]at this
 have hd4:oD R (qB v 4 (5+z4.toNat) 1) ((z4::r).take (z4.toNat+1)):=by
   have:=hb.sl (lo:=4) (hi:=5+z4.toNat) (by omega) (by omega)
   rwa[show 5+z4.toNat- 4=z4.toNat+1 by omega]at this
 have Zo:((z4::r).take (z4.toNat+1)).length≤1000:=by simp;omega
 refine gc 3 ?_;refine aS 22 (od [] 22 0) (_) Tryz.mixed (by kernel_rfl) .refl ?_;refine gh 1 ?_;refine hr rfl (aK hv rfl rfl underlying55 sizeOf5 (by omega) (by omega)) rfl ?_;refine hr rfl (au 0 hv ae rfl isAgg5 rfl rfl) rfl ?_;refine hr rfl (aR rfl underlying5 underlying173) rfl ?_;refine hr rfl (j5 rfl rfl (by decide)) rfl ?_;refine gh 1 ?_;refine hr rfl (aK hv rfl rfl underlying55 sizeOf5 (by omega) (by omega)) rfl ?_;refine hr rfl (au 1 hv ae rfl isAgg5 rfl rfl) rfl ?_;refine hr rfl (aR rfl underlying5 underlying173) rfl ?_;refine hr rfl (j5 rfl rfl (by decide)) rfl ?_;refine hr rfl (m8 rfl rfl) rfl ?_;refine gh 1 ?_;refine hr rfl (aK hv rfl rfl underlying55 sizeOf5 (by omega) (by omega)) rfl ?_;refine hr rfl (au 2 hv ae rfl isAgg5 rfl rfl) rfl ?_;refine hr rfl (aR rfl underlying5 underlying173) rfl ?_;refine hr rfl (j5 rfl rfl (by decide)) rfl ?_;refine hr rfl (m8 rfl rfl) rfl ?_;refine gh 1 ?_;refine hr rfl (aK hv rfl rfl underlying55 sizeOf5 (by omega) (by omega)) rfl ?_;refine hr rfl (au 3 hv ae rfl isAgg5 rfl rfl) rfl ?_;refine hr rfl (aR rfl underlying5 underlying173) rfl ?_;refine hr rfl (m8 rfl rfl) rfl ?_;rw[NC Lv Cc AO Zn,show z0.toNat*16777216+z1.toNat*65536+z2.toNat*256+z3.toNat=kE (z0::z1::z2::z3::z4::r)from rfl];refine gh 8 ?_;rw[wr (by omega) (by omega),show(5:Int)+((z4.toNat:Nat):Int)=((5+z4.toNat:Nat):Int)by omega];refine y (pt hv hb.cap rfl rfl rfl underlying55 sizeOf5 (by omega) (by omega) (by omega)) rfl ?_;refine aA (pZ (bs:=r.take z4.toNat) ?ao2) rfl call47 aZ rfl ?_
 case ao2=>exact hd5.mono ae
 rintro v L' ⟨kH,kI,rfl,oq,rfl⟩;obtain⟨dO,EC,O7⟩:=@QK z0 z1 z2 z3 z4 r (by omega);generalize bX (r.take z4.toNat)=de at*;obtain⟨rc,er⟩:=de;dsimp only at dO EC O7 oq ⊢;have qQ:=oq.n;have k3:=oq.t;unfold tD;have SI:cE [aD kI 9 (cn rc.texts)] (aG kI rc.texts.length) rc.texts.length (cn rc.texts):=bG .z k3;have g9:cE [aD kH 2 (aW rc.aH)] (aG kH rc.aH.length) rc.aH.length (aW rc.aH):=bG .z qQ;refine gy 3 ?_;refine ya (aB zeroValue88 rfl) rfl ?_;rintro v L' ⟨b6,rfl,rfl⟩;refine bA (ai rfl rfl (by(simp only[List.forall_mem_cons,List.not_mem_nil,false_implies,implies_true,bN,and_true,true_and,and_self];first|done|simp[Value.oneCell'])) sizeOf88 bc (by rfl) (by rfl)) ?_;refine gy 4 ?_;refine aS 37 (od [6,36] 37 0) ([aD kH 2 (aW rc.aH),aD kI 9 (cn rc.texts),sc b6 [i64 rc.kind,aG kH rc.aH.length,aG kI rc.texts.length] 88]++R) Tryz.mixed (by kernel_rfl) ae ?_;refine hr rfl (ay (u:=[i64 rc.kind,aG kH rc.aH.length,aG kI rc.texts.length]) rfl isAgg88 sizeOf88 aL rfl rfl) rfl ?_;refine gh 3 ?_;rw[wr (by omega) (by omega),show(5:Int)+((z4.toNat:Nat):Int)=((5+z4.toNat:Nat):Int)by omega];refine hr rfl (pt hv hb.cap rfl rfl rfl underlying55 sizeOf5 (by omega) (by omega) (by omega)) rfl ?_;refine gh 1 ?_;refine bg rfl (NM (bs:=(z4::r).take (z4.toNat+1)) ?aen ?aaf) rfl call135 aZ rfl ?_
 case aen=>exact hd4.rd.mono ae
 case aaf=>omega
 rintro v L' ⟨rfl,rfl⟩;refine⟨ae,?_⟩;refine gh 1 ?_;refine fZ 55 rfl (fun BY=>?_) (fun BY=>?_)
 ·refine gh 4 ?_;refine fZ 59 rfl (fun an9=>?_) (fun an9=>?_)
  ·refine gh 5 ?_;refine fZ 64 rfl (fun rm=>?_) (fun rm=>?_)
   ·refine gh 2 ?_;refine ko rfl rfl rfl (bH rfl underlying57 (by assumption)) rfl ?_;refine gh 3 ?_;refine fZ 70 rfl (fun Yo=>?_) (fun Yo=>?_)
    ·refine gh 2 ?_;refine ko rfl rfl rfl (bH rfl underlying86 (by assumption)) rfl ?_;refine gh 3 ?_;refine fZ 76 rfl (fun xN=>?_) (fun xN=>?_)
     ·refine gh 2 ?_;refine ko rfl rfl rfl (aK SI rfl rfl underlying86 sizeOf9 (by omega) (by omega)) rfl ?_;refine ko rfl rfl rfl (au 0 SI ae rfl isAgg9 rfl (fR (ni (d:=[]) (by omega)))) rfl ?_;refine ko rfl rfl rfl (cP rfl underlying9) rfl ?_;refine gh 2 ?_;refine Eo rfl (ai rfl rfl (ov rc kH kI) sizeOf88 bc (by rfl) (by rfl)) ?_;rintro v L' ⟨rfl,rfl⟩;refine⟨ae,?_⟩;refine gh 5 ?_;refine cx results190 rfl rfl isAgg88 sizeOf88 aL (rfl) (L1:=jd rc kH kI++R) ae ?_;exact⟨_,⟨rc,kH,kI,by(rw[EC (by unfold Sm;omega),←Hw];try rfl),oq,O7,rfl⟩,rfl⟩
     refine gh 7 ?_;refine Eo rfl (ai rfl rfl (ov rc kH kI) sizeOf88 bc (by rfl) (by rfl)) ?_;rintro v L' ⟨rfl,rfl⟩;refine⟨ae,?_⟩;refine gh 5 ?_;refine cx results190 rfl rfl isAgg88 sizeOf88 aL (rfl) (L1:=jd rc kH kI++R) ae ?_;exact⟨_,⟨rc,kH,kI,by(rw[dO (by unfold Sm;omega)];try rfl),oq,O7,rfl⟩,rfl⟩
    refine gh 13 ?_;refine Eo rfl (ai rfl rfl (ov rc kH kI) sizeOf88 bc (by rfl) (by rfl)) ?_;rintro v L' ⟨rfl,rfl⟩;refine⟨ae,?_⟩;refine gh 5 ?_;refine cx results190 rfl rfl isAgg88 sizeOf88 aL (rfl) (L1:=jd rc kH kI++R) ae ?_;exact⟨_,⟨rc,kH,kI,by(rw[dO (by unfold Sm;omega)];try rfl),oq,O7,rfl⟩,rfl⟩
   refine gh 19 ?_;refine Eo rfl (ai rfl rfl (ov rc kH kI) sizeOf88 bc (by rfl) (by rfl)) ?_;rintro v L' ⟨rfl,rfl⟩;refine⟨ae,?_⟩;refine gh 5 ?_;refine cx results190 rfl rfl isAgg88 sizeOf88 aL (rfl) (L1:=jd rc kH kI++R) ae ?_;exact⟨_,⟨rc,kH,kI,by(rw[dO (by unfold Sm;omega)];try rfl),oq,O7,rfl⟩,rfl⟩
  refine gh 24 ?_;refine Eo rfl (ai rfl rfl (ov rc kH kI) sizeOf88 bc (by rfl) (by rfl)) ?_;rintro v L' ⟨rfl,rfl⟩;refine⟨ae,?_⟩;refine gh 5 ?_;refine cx results190 rfl rfl isAgg88 sizeOf88 aL (rfl) (L1:=jd rc kH kI++R) ae ?_;exact⟨_,⟨rc,kH,kI,by(rw[dO (by unfold Sm;omega)];try rfl),oq,O7,rfl⟩,rfl⟩
 refine gh 28 ?_;refine Eo rfl (ai rfl rfl (ov rc kH kI) sizeOf88 bc (by rfl) (by rfl)) ?_;rintro v L' ⟨rfl,rfl⟩;refine⟨ae,?_⟩;refine gh 5 ?_;refine cx results190 rfl rfl isAgg88 sizeOf88 aL (rfl) (L1:=jd rc kH kI++R) ae ?_;exact⟨_,⟨rc,kH,kI,by(rw[dO (by unfold Sm;omega)];try rfl),oq,O7,rfl⟩,rfl⟩
def eI(l c:Nat)(q:Q3)(sl:Sv)(L:aU):ax:=sc l [dp q,i64 L.first,i64 L.n,ptr c,i64 L.head,i64 L.time,i64 L.least,aG sl L.l.length] 208
def nK(sl:Sv)(L:aU):ax:=aD sl 211 (dI L.l)
abbrev g6(sl:Sv)(L:aU):Prop:=bW sl L.l.length 2 (dI L.l)
theorem Cu [Env]{R:List ax}{l c:Nat}{q:Q3}{sl:Sv}{L:aU}{k:Int}(h1:0≤k)(h2:k≤4611686018427388416)(hn:2≤L.n)(zB:L.n≤512)(hf:0≤L.first)(AN:L.first≤512):
   bC Tryz.prog 188 [ptr l,i64 k] [eI l c q sl L] R (Is (i64 (L.place k)) [eI l c q sl L]):=by
 have hm:=Int.emod_nonneg k (show(L.n:Int)≠0 by omega);have hm2:=Int.emod_lt_of_pos k (show(0:Int)<L.n by omega);have htm:k.tmod L.n=k % L.n:=Int.tmod_eq_emod_of_nonneg h1;have Gh:L.place k=L.first+k % L.n:=rfl;unfold eI;refine ag func188 ntmps188 rfl rfl ?_;refine gc 5 ?_;refine aS 11 (od [] 11 0) (_) Tryz.mixed (by kernel_rfl) .refl ?_;refine gh 9 ?_;refine hr rfl (iH (p:=k) (q:=(L.n:Int)) rfl rfl (by omega)) rfl ?_;rw[htm];refine gh 1 ?_;rw[show IntKind.i64.wrap (L.first+k % (L.n:Int))=L.place k by rw[Gh,wr (by omega) (by omega)]];refine gh 5 ?_;refine aj results188 rfl (L1:=[sc l _ 208]++R) ae ?_;exact⟨_,⟨rfl,rfl⟩,rfl⟩
theorem pK [Env]{R:List ax}{l c:Nat}{q:Q3}{sl:Sv}{L:aU}(hs:g6 sl L)(h1:0≤L.head)(h2:L.tail≤4611686018427388416)(hl:L.l.length≤512):bC Tryz.prog 189 [ptr l] [eI l c q sl L] R (Is (i64 L.tail) [eI l c q sl L]):=by
 have Gi:L.tail=L.head+L.l.length:=rfl;unfold eI;refine ag func189 ntmps189 rfl rfl ?_;refine gc 5 ?_;refine aS 10 (od [] 10 0) (_) Tryz.mixed (by kernel_rfl) .refl ?_;refine gh 8 ?_;refine hr rfl (bH rfl underlying206 hs) rfl ?_;refine gh 6 ?_;refine aj results189 rfl (L1:=[sc l _ 208]++R) ae ?_;exact⟨_,⟨by rw[Gi,wr (by omega) (by omega)],rfl⟩,rfl⟩
theorem WN [Env]{R:List ax}{l c:Nat}{q:Q3}{sl:Sv}{L:aU}(hs:g6 sl L)(h1:L.n≤512)(hl:L.l.length≤512):bC Tryz.prog 224 [ptr l] [eI l c q sl L] R (Is (i64 ((L.n:Int)-L.l.length)) [eI l c q sl L]):=by
 unfold eI;refine ag func224 ntmps224 rfl rfl ?_;refine gc 5 ?_;refine aS 10 (od [] 10 0) (_) Tryz.mixed (by kernel_rfl) .refl ?_;refine gh 8 ?_;refine hr rfl (bH rfl underlying206 hs) rfl ?_;refine gh 6 ?_;refine aj results224 rfl (L1:=[sc l _ 208]++R) ae ?_;exact⟨_,⟨by rw[wr (by omega) (by omega)],rfl⟩,rfl⟩
theorem ahp [Env]{R:List ax}{l c:Nat}{q:Q3}{sl:Sv}{L:aU}:bC Tryz.prog 85 [ptr l] [eI l c q sl L] R (Is (i64 L.head) [eI l c q sl L]):=by
 unfold eI;refine ag func85 ntmps85 rfl rfl ?_;refine gc 13 ?_;refine aj results85 rfl (L1:=_) ae ?_;exact⟨_,⟨by rfl,rfl⟩,by rfl⟩
theorem WQ [Env]{R:List ax}{l c:Nat}{q:Q3}{sl:Sv}{L:aU}{D:az}(hD:D.ok):bC Tryz.prog 207 [ptr l] [eI l c q sl L,dev q D] R (Is (i64 D.aJ.1) [eI l c q sl L,dev q D.aJ.2]):=by
 unfold eI;refine ag func207 ntmps207 rfl rfl ?_;refine gc 9 ?_;refine bK (rP ?Iv) call93 ?_
 case Iv=>exact hD
 refine gy 4 ?_;refine aj results207 rfl (L1:=[sc l _ 208,dev q D.aJ.2]++R) ae ?_;exact⟨_,⟨rfl,rfl⟩,rfl⟩
theorem ahq [Env]{R:List ax}{l c:Nat}{q:Q3}{sl:Sv}{L:aU}{D:az}{head least:Int}(hL:L.ok D)(hh:0≤head∧head≤4611686018427388416)(hle:0≤least∧least≤4611686018427387904):
   bC Tryz.prog 138 [ptr l,i64 head,i64 least] [eI l c q sl L,dh c q L.c,dev q D] R (Is (i64 (L.put D head least).1) [eI l c q sl L,dh c q (L.put D head least).2.1.c,dev q (L.put D head least).2.2]):=by
 have htm:=hL.time;have dj:(fE head L.time least).may:=uG hh ⟨by omega,by omega⟩ ⟨by omega,by omega⟩;have iW:=qa dj;have hlen:=qe (h:=head) (t:=L.time) (l:=least) hh ⟨by omega,by omega⟩ ⟨by omega,by omega⟩;have jP:L.put D head least=((L.c.put D (bL (fE head L.time least))).1,{L with c:=(L.c.put D (bL (fE head L.time least))).2.1},(L.c.put D (bL (fE head L.time least))).2.2):=rfl;refine ag func138 ntmps138 rfl rfl ?_;unfold eI;refine gc 11 ?_;refine ya (aE rfl underlying57 sizeOf2 zeroValue2 rfl rfl rfl rfl ⟨⟨_,_,rfl,(by rfl),(by decide)⟩,⟨⟨_,_,rfl,(by rfl),(by decide)⟩,⟨⟨_,_,rfl,(by rfl),(by decide)⟩,trivial⟩⟩⟩ (by dsimp[bt,aX,aY,bS]<;>rfl)) rfl ?_;rintro v L' ⟨b16,rfl,rfl⟩;refine y (bU rfl) rfl ?_;refine aA (p6 (r:=fE head L.time least) ?apA ?apT ?ate) rfl call94 aZ rfl ?_
 case apA=>exact eh aL rfl rfl
 case apT=>exact CN
 case ate=>exact dj.num
 rintro v L' ⟨s18,rfl,It,rfl⟩;rw[iW]at It ⊢;dsimp only at It ⊢;generalize bL (fE head L.time least)=rb at*;refine gy 8 ?_;refine aS 6 (od [] 6 0) ([sc l _ 208,aD s18 5 (av rb)]++R) Tryz.mixed (by kernel_rfl) ae ?_;refine gh 5 ?_;refine hr rfl (jq (pT (L:=[aD s18 5 (av rb)]) .z It).rd.bytes ae rfl underlying55 underlying9 underlying5) rfl ?_;refine gh 1 ?_;refine bK (NN ?aeG ?QI) call57 ?_
 case aeG=>exact hL.c
 case QI=>exact hL.d
 refine gy 4 ?_;refine aj results138 rfl (L1:=[sc l _ 208,dh c q _,dev q _]++R) ae ?_;rw[jP];exact⟨_,⟨rfl,rfl⟩,rfl⟩
theorem Px [Env]{R:List ax}{l c:Nat}{q:Q3}{sl:Sv}{L:aU}(cq:g6 sl L)(hl:L.l.length≤512):
   bC Tryz.prog 82 [ptr l] [eI l c q sl L,nK sl L] R (zx 9 (L.l.map (·.1)).length 1 (cn (L.l.map (·.1))) [eI l c q sl L,nK sl L]):=by
 have jt:cE [nK sl L] (aG sl L.l.length) L.l.length (dI L.l):=bG .z cq;unfold eI;refine ag func82 ntmps82 rfl rfl ?_;refine gc 8 ?_;refine bq ?_;intro K3 pD;refine gc 5 ?_;refine y (bH rfl underlying206 cq) rfl ?_;refine gy 1 ?_;refine VU (L':=[sc l [dp q,i64 L.first,i64 L.n,ptr c,i64 L.head,i64 L.time,i64 L.least,aG sl L.l.length] 208,nK sl L,aD none 9 (cn ((L.l.take 0).map (·.1)))]++R) (by simp[aD]) ?_;refine gy 2 ?_
 have fQ: ∀x:Nat × Sv,((x.1≤L.l.length∧bW x.2 ((L.l.take x.1).map (·.1)).length 1 (cn ((L.l.take x.1).map (·.1))))∧(x.1=L.l.length))→Sk 22 K3 ([(11,i64 x.1),(10,i64 L.l.length),(9,aG sl L.l.length),(3,aG x.2 ((L.l.take x.1).map (·.1)).length),(0,ptr l)]) ([sc l [dp q,i64 L.first,i64 L.n,ptr c,i64 L.head,i64 L.time,i64 L.least,aG sl L.l.length] 208,nK sl L,aD x.2 9 (cn ((L.l.take x.1).map (·.1)))]++R):=by
  rintro⟨k,s⟩ ⟨bJ,eK⟩;refine pD _ _ ?_;obtain⟨hk,ok⟩:=bJ;dsimp only at hk ok ⊢;dsimp only at eK;subst eK;rw[List.take_length]at ok ⊢;refine gc 6 ?_;refine aj results82 rfl (L1:=[aD s 9 _,sc l _ 208,nK sl L]++R) ae ?_;exact⟨_,⟨s,rfl,ok,rfl⟩,rfl⟩
 clear pD;refine gc 1 ?_;refine bO (A:=Nat × Sv) (fun x=>[(11,i64 x.1),(10,i64 L.l.length),(9,aG sl L.l.length),(3,aG x.2 ((L.l.take x.1).map (·.1)).length),(0,ptr l)]) (fun x=>[sc l [dp q,i64 L.first,i64 L.n,ptr c,i64 L.head,i64 L.time,i64 L.least,aG sl L.l.length] 208,nK sl L,aD x.2 9 (cn ((L.l.take x.1).map (·.1)))]++R) (fun x=>x.1≤L.l.length∧bW x.2 ((L.l.take x.1).map (·.1)).length 1 (cn ((L.l.take x.1).map (·.1)))) (fun x=>L.l.length-x.1) ((0,none)) ?_ aq ae ?_
 · exact⟨Nat.zero_le _,rfl,rfl⟩
 rintro⟨k,s⟩ bJ kt cI;have cC:=bJ;obtain⟨hk,ok⟩:=bJ;dsimp only at hk ok ⊢;refine gc 5 ?_;refine cc rfl (fun Hn=>?_) (fun Hn=>?_)
 ·obtain⟨x,hx⟩: ∃y,L.l[k]? =some y:=⟨_,List.getElem?_eq_getElem (by omega)⟩;have iP:(L.l.take (k+1)).map (·.1)=(L.l.take k).map (·.1)++[x.1]:=by rw[dg hx];simp
  have hlk:((L.l.take k).map (·.1)).length=k:=by simp;omega
  refine gc 5 ?_;refine y (aK jt rfl rfl underlying206 sizeOf211 (by omega) (by omega)) rfl ?_;refine y (dB (k*2) jt ae rfl isAgg211 sizeOf211 (by simp) (Pm hx) rfl) rfl ?_;refine ya (aB zeroValue211 rfl) rfl ?_;rintro v L' ⟨b5,rfl,rfl⟩;refine bA (ai rfl rfl (by simp[Value.oneCell']) sizeOf211 bc (by rfl) (by rfl)) ?_;refine gy 6 ?_;refine ya (aE rfl underlying86 sizeOf9 zeroValue9 rfl rfl rfl rfl ⟨⟨_,_,rfl,(by rfl),(by decide)⟩,trivial⟩ (by dsimp[bt,aX,aY,bS]<;>rfl)) rfl ?_;rintro v L' ⟨b18,rfl,rfl⟩;refine ya (aO (s:=s) (xs:=cn ((L.l.take k).map (·.1))) (m:=((L.l.take k).map (·.1)).length) (k:=1) (us:=[str x.1]) (size:=1) rfl rfl (by repeat first|exact .z|apply Pk.s) underlying86 underlying86 (by intro q hq;cases hq) typeInfo9 rfl rfl rfl ?pO ?alX ?akf ?aef) rfl ?_
  case pO=>exact ok
  case alX=>exact cz aL rfl rfl
  case akf=>intro u hu;simp at hu;subst hu;rfl
  case aef=>show(_+_)*17≤_;omega
  rintro v L' ⟨s19,rfl,Iu,rfl⟩;rw[show cn ((L.l.take k).map (·.1))++[str x.1]=cn ((L.l.take (k+1)).map (·.1))by rw[iP];simp[cn],show((L.l.take k).map (·.1)).length+1=((L.l.take (k+1)).map (·.1)).length by rw[iP];simp]at Iu ⊢;refine gy 6 ?_;rw[show IntKind.i64.wrap ((k:Int)+1)=((k+1:Nat):Int)by rw[wr (by omega) (by omega)];rfl];refine gy 3 ?_;exact cI ((k+1,s19)) (⟨by dsimp only;omega,Iu⟩) (by dsimp only;omega) _ _ aq ae
 refine gc 5 ?_;exact aV aq ae (fQ ⟨k,s⟩ ⟨cC,by omega⟩)
end W
end Go.Proofs