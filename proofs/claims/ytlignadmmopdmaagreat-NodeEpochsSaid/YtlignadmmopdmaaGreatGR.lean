/- A part of the proof. -/
import Derived.Test.YtlignadmmopdmaaGreatGN
import Derived.Test.YtlignadmmopdmaaGreatGL
import Derived.Test.YtlignadmmopdmaaGreatGI
import Derived.Test.YtlignadmmopdmaaGreatGQ
set_option linter.unusedVariables false
set_option linter.unusedSimpArgs false
set_option linter.constructorNameAsVariable false
namespace Go.Sl
theorem Io{u:Nat}(h:u<128):(fN u).length=1:=by
 unfold fN;rw[if_pos h];rfl
theorem yH{m:Int}(h: -64≤m∧m<64):(fN (mT m)).length=1:=Io (by unfold mT;split<;>omega)
theorem jb{m:Int}(h:gg m):(fN (mT m)).length≤10:=by
 obtain⟨h1,h2⟩:=h;exact il (oC (by omega) (by omega))
theorem oo(m:Int)(l:List Int):(eZ (m::l)).length=(fN (mT m)).length+(eZ l).length:=by simp[eZ]
theorem Pv{k:bT}(h:k.ok):(eZ k.aH).length≤60:=by
 have a:=jb h.e;have b:=jb h.s;have c:=jb h.a;have d:=jb h.b;have e:=jb h.c;have f:=jb h.d;simp only[bT.aH,oo];have:(eZ []).length=0:=rfl;omega
theorem Vn{n:Nat}(hn:n≤32){r:bI}(h:r.ok n):(bL r.rc).length≤110:=by
 obtain⟨w,k⟩:=r;have hk:(eZ k.aH).length≤60:=Pv h.k;have e1:(bL (bI.rc ⟨w,k⟩)).length=2+(eZ (w.aH++k.aH)).length+(fJ w.texts).length:=by simp[bL,bI.rc];omega
 have e2:(eZ (w.aH++k.aH)).length=(eZ w.aH).length+(eZ k.aH).length:=by simp[eZ]
 rw[e1,e2];have hz:(eZ []).length=0:=rfl;cases w with
 |put x=>
  obtain⟨h1,h2,h3,h4,h5,h6⟩:=h.w;have a:=yH (m:=x.bE) (by omega);have b:=jb (m:=x.ve) ⟨by omega,h2.2⟩;have c:=jb (m:=x.vs) ⟨by omega,h3.2⟩;have d:(fN (mT (mI x.bZ))).length=1:=yH (by unfold mI;split<;>omega);have e:=yH (m:=x.cl) (by omega);have f:=jb h6;have g:(fJ (cu.put x).texts).length=9:=by simp[cu.texts,fJ,h4]
  rw[g];simp only[cu.aH,oo];omega
 |clean b e s=>
  obtain⟨h1,h2,h3⟩:=h.w;have a:=yH (m:=b) (by omega);have b':=jb (m:=e) ⟨by omega,h2.2⟩;have c:=jb (m:=s) ⟨by omega,h3.2⟩;have g:(fJ (cu.clean b e s).texts).length=0:=rfl;rw[g];simp only[cu.aH,oo];omega
 |drop b=>
  have h1:0≤b∧b<n:=h.w;have a:=yH (m:=b) (by omega);have g:(fJ (cu.drop b).texts).length=0:=rfl;rw[g];simp only[cu.aH,oo];omega
 |note=>
  have g:(fJ cu.note.texts).length=0:=rfl;rw[g];simp only[cu.aH];omega
structure zw where
 en:Int→Option bd
 pu:Int→Option Int
 k:bT
def aQ.view(C:aQ):zw:=⟨bM C.en,bM C.pu,C.k⟩
def N7(f:Int→Option bd):cu→Int→Option bd
 | .put x=>fun i=>if i=x.bE then some x else f i
 | .clean b e s=>fun i=>if i=b then(f b).map (fun y=>if y.ve=e∧y.vs=s then{y with bZ:=false}else y)else f i
 | .drop b=>fun i=>if i=b then none else f i
 | .note=>f
def Ti(f:Int→Option Int)(num:Int):cu→Int→Option Int
 | .put x=>fun i=>if i=x.bE then some num else f i
 | .drop b=>fun i=>if i=b then none else f i
 |_=>f
def zw.ec(V:zw)(r:bI)(num:Int):zw:=⟨N7 V.en r.w,Ti V.pu num r.w,r.k⟩
theorem Bu{C:aQ}(h:C.UE)(r:bI)(num:Int):(C.ec r num).view=C.view.ec r num:=by
 obtain⟨w,k⟩:=r;unfold aQ.view zw.ec aQ.ec aQ.MU;cases w with
 |put x=>
  simp only[N7,Ti,zw.mk.injEq,and_true];exact⟨funext fun i=>pX _ _ _ _ _,funext fun i=>pX _ _ _ _ _⟩
 |clean b e s=>
  dsimp only[N7,Ti];cases hg:bM C.en b with
  |none=>
   simp only[zw.mk.injEq,and_true]
   funext i
   by_cases hi:i=b
   ·subst hi;rw[if_pos rfl,hg];rfl
   ·rw[if_neg hi]
  |some y=>
   dsimp only
   by_cases hc:y.ve=e∧y.vs=s
   ·rw[if_pos hc];simp only[zw.mk.injEq,and_true]
    funext i
    rw[pX]
    by_cases hi:i=b
    · rw[if_pos hi,if_pos hi];simp only[Option.map_some];rw[if_pos hc]
    · rw[if_neg hi,if_neg hi]
   ·rw[if_neg hc];simp only[zw.mk.injEq,and_true]
    funext i
    by_cases hi:i=b
    · subst hi;rw[if_pos rfl,hg];simp only[Option.map_some];rw[if_neg hc]
    · rw[if_neg hi]
 |drop b=>
  simp only[N7,Ti,zw.mk.injEq,and_true];exact⟨funext fun i=>uf h.e _ _,funext fun i=>uf h.p _ _⟩
 |note=>rfl
def zeroV:zw:=⟨fun _=>none,fun _=>none,⟨0,0,⟨0,0,0,0⟩⟩⟩
def replay(m:Nat):List (Bytes × Int)→Int→zw→Option zw
 | [],_,V=>some V
 |x::l,num,V=>match iq m x.1 with
  |none=>none
  |some r=>replay m l (num+1) (V.ec r num)
theorem vI{m:Nat}: ∀(l:List (Bytes × Int)) (num:Int) (C:aQ),C.UE→(∀V,replay m l num C.view=some V→ ∃C',gR m l num C=some C'∧C'.view=V)
 | [],num,C,h,V,hv=>by
  simp only[replay,Option.some.injEq]at hv;exact⟨C,rfl,hv⟩
 |x::l,num,C,h,V,hv=>by
  unfold replay at hv;unfold gR;cases hr:iq m x.1 with
  |none=>rw[hr]at hv;cases hv
  |some r=>
   rw[hr]at hv;dsimp only at hv ⊢;rw[←Bu h]at hv;exact vI l (num+1) (C.ec r num) (h.ec _ _) V hv
theorem vQ{m:Nat}: ∀(l:List (Bytes × Int)) (num:Int) (V V':zw) (x:Bytes × Int) (r:bI),replay m l num V=some V'→iq m x.1=some r→replay m (l++[x]) num V=some (V'.ec r (num+l.length))
 | [],num,V,V',x,r,h,hr=>by
  simp only[replay,Option.some.injEq]at h;subst h;simp[replay,hr]
 |y::l,num,V,V',x,r,h,hr=>by
  unfold replay at h;rw[List.cons_append];unfold replay;cases hy:iq m y.1 with
  |none=>rw[hy]at h;cases h
  |some q=>
   rw[hy]at h;dsimp only at h ⊢;rw[vQ l (num+1) _ V' x r h hr,List.length_cons];congr 2;omega
structure Alike(num:Int)(b0:Int)(V W:zw):Prop where
 other: ∀i,i≠b0→V.en i=W.en i∧V.pu i=W.pu i
 it:(V.en b0=W.en b0∧V.pu b0=W.pu b0)∨(V.pu b0=some num∧W.en b0=none∧W.pu b0=none)
theorem Alike.ec{num b0:Int}{V W:zw}(h:Alike num b0 V W)(r:bI)(q:Int):Alike num b0 (V.ec r q) (W.ec r q):=by
 obtain⟨w,k⟩:=r;cases w with
 |put x=>
  refine⟨fun i hi=>?_,?_⟩
  ·show(if i=x.bE then some x else V.en i)=(if i=x.bE then some x else W.en i)∧(if i=x.bE then some q else V.pu i)=(if i=x.bE then some q else W.pu i);rw[(h.other i hi).1,(h.other i hi).2];exact⟨rfl,rfl⟩
  ·show((if b0=x.bE then some x else V.en b0)=(if b0=x.bE then some x else W.en b0)∧(if b0=x.bE then some q else V.pu b0)=(if b0=x.bE then some q else W.pu b0))∨((if b0=x.bE then some q else V.pu b0)=some num∧(if b0=x.bE then some x else W.en b0)=none∧(if b0=x.bE then some q else W.pu b0)=none)
   by_cases e:b0=x.bE
   ·rw[if_pos e,if_pos e,if_pos e,if_pos e];exact .inl ⟨rfl,rfl⟩
   ·rw[if_neg e,if_neg e,if_neg e,if_neg e];exact h.it
 |clean b e s=>
  refine⟨fun i hi=>?_,?_⟩
  ·refine⟨?_,(h.other i hi).2⟩;show(if i=b then(V.en b).map _ else V.en i)=(if i=b then(W.en b).map _ else W.en i)
   by_cases eb:i=b
   ·subst eb;rw[if_pos rfl,if_pos rfl,(h.other i hi).1]
   ·rw[if_neg eb,if_neg eb];exact(h.other i hi).1
  ·show((if b0=b then(V.en b).map _ else V.en b0)=(if b0=b then(W.en b).map _ else W.en b0)∧V.pu b0=W.pu b0)∨(V.pu b0=some num∧(if b0=b then(W.en b).map _ else W.en b0)=none∧W.pu b0=none)
   by_cases eb:b0=b
   ·subst eb;rw[if_pos rfl,if_pos rfl];rcases h.it with h1|h1
    · rw[h1.1];exact .inl ⟨rfl,h1.2⟩
    · rw[h1.2.1];exact .inr ⟨h1.1,rfl,h1.2.2⟩
   ·rw[if_neg eb,if_neg eb];exact h.it
 |drop b=>
  refine⟨fun i hi=>?_,?_⟩
  ·show(if i=b then none else V.en i)=(if i=b then none else W.en i)∧(if i=b then none else V.pu i)=(if i=b then none else W.pu i);rw[(h.other i hi).1,(h.other i hi).2];exact⟨rfl,rfl⟩
  ·show((if b0=b then none else V.en b0)=(if b0=b then none else W.en b0)∧(if b0=b then none else V.pu b0)=(if b0=b then none else W.pu b0))∨((if b0=b then none else V.pu b0)=some num∧(if b0=b then none else W.en b0)=none∧(if b0=b then none else W.pu b0)=none)
   by_cases e:b0=b
   ·rw[if_pos e,if_pos e,if_pos e,if_pos e];exact .inl ⟨rfl,rfl⟩
   ·rw[if_neg e,if_neg e,if_neg e,if_neg e];exact h.it
 |note=>exact⟨h.other,h.it⟩
theorem sd{m:Nat}{num b0:Int}: ∀(l:List (Bytes × Int)) (q:Int) (V W V':zw),Alike num b0 V W→(l≠[]∨V.k=W.k)→replay m l q V=some V'→ ∃W',replay m l q W=some W'∧Alike num b0 V' W'∧V'.k=W'.k
 | [],q,V,W,V',h,hk,hv=>by
  simp only[replay,Option.some.injEq]at hv;subst hv;rcases hk with hk|hk
  ·exact absurd rfl hk
  ·exact⟨W,rfl,h,hk⟩
 |x::l,q,V,W,V',h,hk,hv=>by
  unfold replay at hv ⊢;cases hr:iq m x.1 with
  |none=>rw[hr]at hv;cases hv
  |some r=>
   rw[hr]at hv;dsimp only at hv ⊢;exact sd l (q+1) (V.ec r q) (W.ec r q) V' (h.ec r q) (.inr rfl) hv
theorem FB{m:Nat}{x:Bytes × Int}{l:List (Bytes × Int)}{num:Int}{V:zw}(hl:l≠[])(h:replay m (x::l) num zeroV=some V)(hn: ∀i,V.pu i≠some num):replay m l (num+1) zeroV=some V:=by
 unfold replay at h;cases hr:iq m x.1 with
 |none=>rw[hr]at h;cases h
 |some r=>
  rw[hr]at h;dsimp only at h
  have hA: ∃b0,Alike num b0 (zeroV.ec r num) zeroV:=by
   obtain⟨w,k⟩:=r;cases w with
   |put y=>
    refine⟨y.bE,fun i hi=>?_,?_⟩
    ·show(if i=y.bE then some y else none)=none∧(if i=y.bE then some num else none)=none;rw[if_neg hi,if_neg hi];exact⟨rfl,rfl⟩
    ·refine .inr ⟨?_,rfl,rfl⟩;show(if y.bE=y.bE then some num else none)=some num;rw[if_pos rfl]
   |clean b e s=>
    refine⟨0,fun i _=>⟨?_,rfl⟩,.inl ⟨?_,rfl⟩⟩
    ·show(if i=b then(none:Option bd).map _ else none)=none;split<;>rfl
    ·show(if(0:Int)=b then(none:Option bd).map _ else none)=none;split<;>rfl
   |drop b=>
    refine⟨0,fun i _=>⟨?_,?_⟩,.inl ⟨?_,?_⟩⟩
    ·show(if i=b then none else none)=none;split<;>rfl
    ·show(if i=b then none else none)=none;split<;>rfl
    ·show(if(0:Int)=b then none else none)=none;split<;>rfl
    ·show(if(0:Int)=b then none else none)=none;split<;>rfl
   |note=>exact⟨0,fun i _=>⟨rfl,rfl⟩,.inl ⟨rfl,rfl⟩⟩
  obtain⟨b0,hA⟩:=hA;obtain⟨W',h1,h2,h3⟩:=sd l (num+1) _ zeroV V hA (.inl hl) h;rw[h1]
  have Zh:V.en b0=W'.en b0∧V.pu b0=W'.pu b0:=by
   rcases h2.it with h4|h4
   ·exact h4
   ·exact absurd h4.1 (hn b0)
  have:V=W':=by
   cases V;cases W';simp only at h2 h3 Zh;simp only[zw.mk.injEq];refine⟨funext fun i=>?_,funext fun i=>?_,h3⟩
   ·by_cases e:i=b0
    ·rw[e];exact Zh.1
    ·exact(h2.other i e).1
   ·by_cases e:i=b0
    ·rw[e];exact Zh.2
    ·exact(h2.other i e).2
  rw[this]
theorem uP: ∀{a b:List Int},a.Nodup→(∀x∈a,x∈b)→a.length≤b.length
 | [],b,_,_=>Nat.zero_le _
 |x::a,b,hn,hs=>by
  simp only[List.nodup_cons]at hn;have hx:=hs x (by simp)
  have h1: ∀y∈a,y∈b.erase x:=fun y hy=>by
   have xY:y≠x:=fun e=>hn.1 (e▸hy)
   exact(List.mem_erase_of_ne xY).2 (hs y (by simp[hy]))
  have:=uP hn.2 h1;rw[List.length_erase_of_mem hx]at this;have h0:0<b.length:=List.length_pos_of_mem hx;simp only[List.length_cons];omega
def NT(f:Int→Option bd):Nat→Nat
 |0=>0
 |m+1=>NT f m+(if(f (m:Nat)).isSome=true then 1 else 0)
theorem uh(C:aQ): ∀k,(fL C k).length=NT (bM C.en) k
 |0=>rfl
 |k+1=>by
  rw[hX];unfold NT;cases h:bM C.en (k:Nat)with
  |none=>simp[uh C k]
  |some x=>simp[uh C k]
theorem Je(C:aQ):C.all.length=NT (bM C.en) C.bl:=uh C C.bl
theorem u7{C C':aQ}(h: ∀i,bM C'.en i=bM C.en i): ∀k,fL C' k=fL C k
 |0=>rfl
 |k+1=>by rw[hX,hX,h,u7 h k]
theorem all_congr{C C':aQ}(hb:C'.bl=C.bl)(h: ∀i,bM C'.en i=bM C.en i):C'.all=C.all:=by
 unfold aQ.all;rw[hb];exact u7 h _
theorem Yc{C:aQ}{D:az}(h:C.ok D):C.en.length=NT (bM C.en) C.bl:=by
 rw[←Je]
 have h1:(C.en.map (·.1)).length≤(C.all.map (·.bE)).length:=uP h.m.e.uniq fun x hx=>by
  obtain⟨y,hy,rfl⟩:=List.mem_map.1 hx;have hg:=DC h.m.e hy;exact List.mem_map.2 ⟨_,Tv h hg,(h.en y hy).2⟩
 have oJ: ∀k,((fL C k).map (·.bE)).Nodup∧ ∀x∈fL C k,x.bE<k:=by
  intro k
  induction k with
  |zero=>exact⟨by simp[fL],fun x hx=>by simp[fL]at hx⟩
  |succ k ih=>
   rw[hX];cases hg:bM C.en (k:Nat)with
   |none=>exact⟨ih.1,fun x hx=>by have:=ih.2 x hx;omega⟩
   |some y=>
    have hy:=(jG h hg).2;dsimp only;refine⟨?_,fun x hx=>?_⟩
    ·rw[List.map_append,List.nodup_append];refine⟨ih.1,by simp,?_⟩;intro a ha b hb;simp only[List.map_cons,List.map_nil,List.mem_singleton]at hb;obtain⟨x,hx,rfl⟩:=List.mem_map.1 ha;have:=ih.2 x hx;omega
    ·rcases List.mem_append.1 hx with hx|hx
     · have:=ih.2 x hx;omega
     · simp only[List.mem_singleton]at hx;subst hx;omega
 have h2:(C.all.map (·.bE)).length≤(C.en.map (·.1)).length:=uP (oJ C.bl).1 fun x hx=>by
  obtain⟨y,hy,rfl⟩:=List.mem_map.1 hx;obtain⟨i,hi,hg⟩:=Jf hy;obtain⟨b,hb⟩:=jY hg;exact List.mem_map.2 ⟨_,hb,(jG h hg).2.symm⟩
 simp only[List.length_map]at h1 h2;omega
def m0(C:aQ)(D:az)(kind:Int)(x:bd)(ns:List Int):Int × aQ × az:=
 if kind=0 then C.put D x else if kind=1 then C.clean D x.bE x.ve x.vs else if kind=2 then C.drop D x.bE else if kind=3 then C.note D x.ve x.vs ns else if kind=8 then C.reset D x.ve x.vs ns else if kind=4 then C.sync D else(0,C,D)
theorem N3{C:aQ}{D:az}(h:C.ok D)(kind:Int)(x:bd)(ns:List Int):(m0 C D kind x ns).2.1.ok (m0 C D kind x ns).2.2:=by
 unfold m0;split
 ·unfold aQ.put;split
  ·exact h
  ·rename_i c1
   split
   ·exact h
   ·rename_i c2
    split
    ·exact h
    ·rename_i c3
     obtain⟨oZ,-⟩:=GC (by simpa using c1) (Classical.not_not.1 c2) (by simpa using c3);have hKo:=CK h.k oZ;split
     ·exact h.eH ⟨oZ,hKo⟩
     ·split
      ·exact h
      ·rename_i c7
       have fZ:=tK h (by simpa using c7);have h1:=h.eH (r:=⟨.drop C.spare.1,C.k⟩) ⟨fZ,h.k⟩;split
       ·exact h1
       ·refine h1.add ⟨?_,hKo⟩;rw[aQ.kl.1];exact oZ
 split
 ·unfold aQ.clean;split
  ·exact h
  ·rename_i y hy
   split
   ·exact h
   ·rename_i c1
    split
    ·exact h
    ·obtain⟨hyo,hyb⟩:=jG h hy;have hc:=Classical.not_not.1 c1;refine h.eH ⟨⟨by have:=hyo.bE;omega,by have:=hyo.ve;omega,by have:=hyo.vs;omega⟩,h.k⟩
 split
 ·unfold aQ.drop;split
  ·rename_i c1
   obtain⟨y,hy⟩:=Option.isSome_iff_exists.1 c1;obtain⟨hyo,hyb⟩:=jG h hy;exact h.eH ⟨by show 0≤x.bE∧x.bE<C.bl;have:=hyo.bE;omega,h.k⟩
  ·exact h
 split
 ·unfold aQ.note;split
  ·exact h
  ·rename_i c1
   obtain⟨he,hs,a,b,c,d,rfl,h1,h2,h3,h4⟩:=nI (by simpa using c1);exact h.eH ⟨trivial,yE h.k he hs h1 h2 h3 h4⟩
 split
 ·unfold aQ.reset;split
  ·exact h
  ·rename_i c1
   obtain⟨he,hs,a,b,c,d,rfl,h1,h2,h3,h4⟩:=nI (by simpa using c1);exact h.eH ⟨trivial,⟨he,hs,h1,h2,h3,h4⟩⟩
 split
 ·unfold aQ.sync;have:=h.l;exact⟨⟨this.n,by rw[fA];exact this.first,by rw[fA];exact this.c,this.head,this.time,this.least,this.l,this.M9,this.tail,az.gA this.d⟩,h.bl,h.n,h.n8,h.m,h.k,h.en,h.keys,h.pv,h.pn⟩
 ·exact h
open Go.ChangeShapes Go.WideShapes Go.ChangeAt Go.RowKit Go.Deep
end Go.Sl
namespace Go.Sl
open Go.ChangeShapes Go.WideShapes Go.ChangeAt Go.RowKit Go.Deep
section
variable {H : Type} {enc : TypeId × Value → H} {P : Program} {W : World} {base : Nat} {spare : Nat → Bool} {held : Bool}
end
end Go.Sl
namespace Go.Sl
structure jW where
 first:Int
 n:Nat
 a:Int
 b:Int
 N:Nat
 m:Nat
def Km(m:Nat)(V:zw):List bd × bT:=((List.range m).filterMap fun i:Nat=>V.en i,V.k)
theorem nH(C:aQ):Km C.bl C.view=(C.all,C.k):=rfl
def Dr(P:jW)(W:List (List bd × bT))(h:Int)(l:List (Bytes × Int)):Prop:= ∃V,replay P.m l h zeroV=some V∧Km P.m V∈W
structure CX(P:jW)(k:Nat)(C:aQ)(D:az)(p:Nat):Prop where
 ok:C.ok D
 lx:LX P.first P.n P.a P.b D P.N k C.l.head C.l.time C.l.least C.l.l p
 lg:C.l=⟨P.first,P.n,aF D P.a P.b,C.l.head,C.l.time,C.l.least,C.l.l⟩
 bl:C.bl=P.m
 nn:C.n=P.n
 rp:replay P.m C.l.l C.l.head zeroV=some C.view
structure cf(P:jW)(k:Nat)(C:aQ)(D:az)(W:List (List bd × bT)):Prop where
 x: ∃p,CX P k C D p∧ ∀q,p≤q→q≤C.l.l.length→Dr P W C.l.head (C.l.l.take q)
 n8:8≤P.n
structure iQ(P:jW)(k:Nat)(D:az)(W:List (List bd × bT)):Prop where
 ok:D.ok
 dead:D.dead=true
 len:D.l.length=P.N
 out: ∀ks:dq,(∀x∈ks,x.1≠2)→ ∃h T le l,LR P.first P.n P.a P.b (D.bD ks) P.N k h T le l∧Dr P W h l
theorem Dr.up{P:jW}{W W':List (List bd × bT)}{h:Int}{l:List (Bytes × Int)}(s:Dr P W h l)(hw: ∀x∈W,x∈W'):Dr P W' h l:=by
 obtain⟨V,h1,h2⟩:=s;exact⟨V,h1,hw _ h2⟩
theorem CX.FZ{P:jW}{k:Nat}{C:aQ}{D:az}{p:Nat}(g:CX P k C D p):CX P (k+1) C D p:=⟨g.ok,g.lx.FZ,g.lg,g.bl,g.nn,g.rp⟩
theorem cf.FZ{P:jW}{k:Nat}{C:aQ}{D:az}{W:List (List bd × bT)}(g:cf P k C D W):cf P (k+1) C D W:=by
 obtain⟨⟨p,h1,h2⟩,h3⟩:=g;exact⟨⟨p,h1.FZ,h2⟩,h3⟩
theorem cf.up{P:jW}{k:Nat}{C:aQ}{D:az}{W:List (List bd × bT)}(g:cf P k C D W): ∀j:Nat,cf P (k+j) C D W
 |0=>g
 |j+1=>(g.up j).FZ
theorem cf.le{P:jW}{k k':Nat}{C:aQ}{D:az}{W:List (List bd × bT)}(g:cf P k C D W)(h:k≤k'):cf P k' C D W:=by
 have:=g.up (k'-k);rw[show k+(k'-k)=k' by omega]at this;exact this
theorem cf.more{P:jW}{k:Nat}{C:aQ}{D:az}{W W':List (List bd × bT)}(g:cf P k C D W)(hw: ∀x∈W,x∈W'):cf P k C D W':=by
 obtain⟨⟨p,h1,h2⟩,h3⟩:=g;exact⟨⟨p,h1,fun q q1 q2=>(h2 q q1 q2).up hw⟩,h3⟩
theorem iQ.more{P:jW}{k:Nat}{D:az}{W W':List (List bd × bT)}(g:iQ P k D W)(hw: ∀x∈W,x∈W'):iQ P k D W':=
 ⟨g.ok,g.dead,g.len,fun ks kn=>by obtain⟨h,T,le,l,h1,h2⟩:=g.out ks kn;exact⟨h,T,le,l,h1,h2.up hw⟩⟩
theorem iQ.FZ{P:jW}{k:Nat}{D:az}{W:List (List bd × bT)}(g:iQ P k D W):iQ P (k+1) D W:=
 ⟨g.ok,g.dead,g.len,fun ks kn=>by obtain⟨h,T,le,l,h1,h2⟩:=g.out ks kn;exact⟨h,T,le,l,h1.FZ,h2⟩⟩
theorem iQ.up{P:jW}{k:Nat}{D:az}{W:List (List bd × bT)}(g:iQ P k D W): ∀j:Nat,iQ P (k+j) D W
 |0=>g
 |j+1=>(g.up j).FZ
theorem iQ.le{P:jW}{k k':Nat}{D:az}{W:List (List bd × bT)}(g:iQ P k D W)(h:k≤k'):iQ P k' D W:=by
 have:=g.up (k'-k);rw[show k+(k'-k)=k' by omega]at this;exact this
def rY(P:jW)(k:Nat)(C:aQ)(D:az)(W:List (List bd × bT)):Prop:=cf P k C D W∨iQ P k D W
theorem rY.le{P:jW}{k k':Nat}{C:aQ}{D:az}{W:List (List bd × bT)}(g:rY P k C D W)(h:k≤k'):rY P k' C D W:=g.imp (·.le h) (·.le h)
theorem rY.more{P:jW}{k:Nat}{C:aQ}{D:az}{W W':List (List bd × bT)}(g:rY P k C D W)(hw: ∀x∈W,x∈W'):rY P k C D W':=g.imp (·.more hw) (·.more hw)
theorem CX.now{P:jW}{k:Nat}{C:aQ}{D:az}{W:List (List bd × bT)}(g:cf P k C D W):(C.all,C.k)∈W:=by
 obtain⟨⟨p,h1,h2⟩,_⟩:=g;obtain⟨V,h3,h4⟩:=h2 C.l.l.length h1.lx.pl (Nat.le_refl _);rw[List.take_length,h1.rp]at h3;cases h3;rw[←h1.bl,nH]at h4;exact h4
theorem cf.bD{P:jW}{k:Nat}{C:aQ}{D D':az}{W:List (List bd × bT)}(g:cf P k C D W)(hk:k<4611686018427387000)(ht:Twin D' D){ks:dq}(kn: ∀x∈ks,x.1≠2):
  ∃h T le l,LR P.first P.n P.a P.b (D'.bD ks) P.N k h T le l∧Dr P W h l:=by
 obtain⟨⟨p,h1,h2⟩,_⟩:=g;obtain⟨q,q1,q2,q3⟩:=h1.lx.bD hk ht kn;exact⟨_,_,_,_,q3,h2 q q1 q2⟩
theorem cf.RY{P:jW}{k:Nat}{C:aQ}{D D':az}{W:List (List bd × bT)}(g:cf P k C D W)(hk:k<4611686018427387000)(ht:Twin D' D)(hd:D'.dead=true):iQ P k D' W:=by
 refine⟨ht.ok,hd,?_,fun ks kn=>g.bD hk ht kn⟩;obtain⟨⟨p,h1,h2⟩,_⟩:=g;rw[ht.l];exact h1.lx.aw.len
theorem cf.add{P:jW}{k:Nat}{C:aQ}{D:az}{W:List (List bd × bT)}(g:cf P k C D W)(hk:k<4611686018427387000){r:bI}(hr:r.ok P.m):
  ((C.add D r).1=0∧(∀W',(∀x∈W,x∈W')→((C.add D r).2.1.all,(C.add D r).2.1.k)∈W'→cf P (k+1) (C.add D r).2.1 (C.add D r).2.2 W')∧(C.add D r).2.1.view=C.view.ec r C.l.tail∧(C.add D r).2.1.l.l.length=C.l.l.length+1∧(C.add D r).2.1.l.head=C.l.head)∨
  ((C.add D r).1=12∧(C.add D r).2=(C,D))∨((C.add D r).1=30∧(C.add D r).2.1=C∧iQ P k (C.add D r).2.2 W):=by
 have g0:=g;obtain⟨⟨p,g,hS⟩,n8⟩:=g;have O2:P.m≤32:=by have h1:=g.ok.bl;have h2:=g.bl;omega
 have hlen:=Vn O2 hr
 by_cases hf:C.l.l.length<P.n
 ·rcases g.lx.append hk (s:=bL r.rc) hlen hf with⟨D',e1,e2⟩|⟨D',e1,e2,e3⟩
  ·left
   rw[←g.lg]at e1
   have zS:C.add D r=(0,aQ.ec {C with l:=⟨P.first,P.n,aF D' P.a P.b,C.l.head,C.l.time,C.l.least,C.l.l++[(bL r.rc,C.l.time)]⟩} r C.l.tail,D'):=by
    unfold aQ.add;rw[e1];simp
   have cq:=g.ok.add (r:=r) (by rw[g.bl];exact hr);rw[zS]at cq ⊢;generalize hL:(⟨P.first,P.n,aF D' P.a P.b,C.l.head,C.l.time,C.l.least,C.l.l++[(bL r.rc,C.l.time)]⟩:aU)=L at*;obtain⟨d1,d2,d3⟩:=aQ.pj {C with l:=L} r C.l.tail;have hv:=Bu (C:={C with l:=L}) ⟨g.ok.m.e,g.ok.m.p⟩ r C.l.tail;have hv0:({C with l:=L}:aQ).view=C.view:=rfl;rw[hv0]at hv
   have ZG:replay P.m L.l L.head zeroV=some (aQ.ec {C with l:=L} r C.l.tail).view:=by
    rw[hv,←hL];exact vQ _ _ _ _ _ _ g.rp (Mn O2 hr)
   have oI:L.l=C.l.l++[(bL r.rc,C.l.time)]:=by rw[←hL]
   have Ze:L.head=C.l.head:=by rw[←hL]
   refine⟨rfl,fun W' hw ee=>⟨⟨p,⟨cq,?_,?_,by rw[d2];exact g.bl,by rw[d3];exact g.nn,by rw[d1];exact ZG⟩,fun q q1 q2=>?_⟩,n8⟩,hv,?_,?_⟩
   ·rw[d1,←hL];exact e2
   ·rw[d1,←hL]
   ·rw[d1]at q2 ⊢;rw[oI]at q2 ⊢;rw[Ze];rw[List.length_append,List.length_singleton]at q2
    by_cases hq:q≤C.l.l.length
    ·rw[List.take_append_of_le_length hq];exact(hS q q1 hq).up hw
    ·rw[List.take_of_length_le (by simp;omega),←oI,←Ze];refine⟨_,ZG,?_⟩;have h0:=nH (aQ.ec {C with l:=L} r C.l.tail);rw[show(aQ.ec {C with l:=L} r C.l.tail).bl=P.m from d2.trans g.bl]at h0;rw[h0];exact ee
   ·rw[d1,oI];simp
   ·rw[d1,Ze]
  ·right;right
   rw[←g.lg]at e1
   have zS:C.add D r=(30,C,D'):=by
    unfold aQ.add;rw[e1];simp
   rw[zS];exact⟨rfl,rfl,g0.RY hk e3 e2⟩
 ·right;left
  have hn:C.l.n=P.n:=by rw[g.lg]
  have oI:=g.lx.ll
  have e1:C.l.append D (bL r.rc)=(12,C.l,D):=by
   unfold aU.append;rw[if_neg (by omega),if_pos (by omega)]
  have zS:C.add D r=(12,C,D):=by
   unfold aQ.add;rw[e1];simp
  rw[zS];exact⟨rfl,rfl⟩
theorem cf.cut{P:jW}{k:Nat}{C:aQ}{D:az}{W:List (List bd × bT)}(g:cf P k C D W)(hk:k<4611686018427387000)(hl:2≤C.l.l.length)(hn: ∀i,bM C.pu i≠some C.l.head):
  ((C.cut D (C.l.head+1)).1=0∧cf P (k+1) (C.cut D (C.l.head+1)).2.1 (C.cut D (C.l.head+1)).2.2 W∧ ∃L',(C.cut D (C.l.head+1)).2.1={C with l:=L'}∧L'.head=C.l.head+1∧L'.l.length+1=C.l.l.length∧L'.tail=C.l.tail)∨
  ((C.cut D (C.l.head+1)).1=30∧(C.cut D (C.l.head+1)).2.1=C∧iQ P (k+1) (C.cut D (C.l.head+1)).2.2 W):=by
 have g0:=g;have HE:=CX.now g;obtain⟨⟨p,g,hS⟩,n8⟩:=g;have e1':(C.l.head+1-C.l.head).toNat=1:=by omega
 have ZG:replay P.m (C.l.l.drop 1) (C.l.head+1) zeroV=some C.view:=by
  have h:=g.rp;cases hL:C.l.l with
  |nil=>rw[hL]at hl;simp at hl
  |cons x l=>
   rw[hL]at h hl;refine FB (x:=x) (l:=l) (fun e=>?_) h hn;subst e;simp at hl
 have EP:Km P.m C.view=(C.all,C.k):=by rw[←g.bl,nH]
 rcases g.lx.trim hk (m:=C.l.head+1) ⟨by omega,by omega⟩with⟨D',rZ,e1,e2⟩|⟨D',e1,e2,e3⟩
 ·left
  rw[←g.lg,e1']at e1;rw[e1']at e2;have hct:C.cut D (C.l.head+1)=(0,{C with l:=⟨P.first,P.n,aF D' P.a P.b,C.l.head+1,C.l.time,rZ,C.l.l.drop 1⟩},D'):=by unfold aQ.cut;rw[e1]
  have cq:=g.ok.cut (C.l.head+1);rw[hct]at cq ⊢;refine⟨rfl,⟨⟨(C.l.l.drop 1).length,⟨cq,e2,rfl,g.bl,g.nn,ZG⟩,fun q q1 q2=>?_⟩,n8⟩,_,rfl,rfl,?_,?_⟩
  ·have hq:q=(C.l.l.drop 1).length:=Nat.le_antisymm q2 q1;subst hq;show Dr P W (C.l.head+1) ((C.l.l.drop 1).take (C.l.l.drop 1).length);rw[List.take_length];exact⟨_,ZG,by rw[EP];exact HE⟩
  ·simp only[List.length_drop];omega
  ·unfold aU.tail;simp only[List.length_drop];omega
 ·right
  rw[←g.lg]at e1;have hct:C.cut D (C.l.head+1)=(30,C,D'):=by unfold aQ.cut;rw[e1]
  rw[hct];refine⟨rfl,rfl,?_⟩;rcases e3 with e3|⟨rZ,⟨e3⟩⟩
  ·exact(g0.RY hk e3 e2).FZ
  ·refine⟨e3.half.ok,e2,by rw[e3.half.l];exact e3.lv.len,fun ks kn=>?_⟩;rcases e3.bD hk kn with q|q
   ·exact⟨_,_,_,_,q.FZ,_,g.rp,by rw[EP];exact HE⟩
   ·rw[e1']at q;exact⟨_,_,_,_,q,_,ZG,by rw[EP];exact HE⟩
end Go.Sl
namespace Go.Sl
theorem DA{C C':aQ}{D:az}(h:C.ok D){x:bd}(oJ:C.j9=some x)(e3:C'.view=C.view.ec ⟨.put x,C.k⟩ C.l.tail)(hht:C.l.head<C.l.tail):
  (∀i,bM C'.en i=bM C.en i)∧C'.k=C.k∧(∀i,bM C'.pu i≠some C.l.head):=by
 obtain⟨oZ,hxg⟩:=h.need oJ
 have nj: ∀i,bM C'.pu i=if i=x.bE then some C.l.tail else bM C.pu i:=fun i=>by
  have:C'.view.pu i=(C.view.ec ⟨.put x,C.k⟩ C.l.tail).pu i:=by rw[e3]
  exact this
 have Zk:bM C.pu x.bE=some C.l.head:=by
  unfold aQ.j9 at oJ;obtain⟨y,hy,e⟩:=Option.map_eq_some_iff.1 oJ;have hm:=List.mem_of_find?_eq_some hy;have hv:=List.find?_some hy;simp only[decide_eq_true_eq]at hv;have SD:=h.keys y.1;rw[o7.2 ⟨y,hm,rfl⟩,lK]at SD;obtain⟨z,hz⟩:=Option.isSome_iff_exists.1 SD.symm;rw[hz,Option.getD_some]at e;have:=(jG h hz).2;rw[←e,this,←hv];exact DC h.m.p hm
 have agS: ∀i,bM C.pu i=some C.l.head→i=x.bE:=fun i hi=>by
  obtain⟨b1,h1⟩:=jY hi;obtain⟨b2,h2⟩:=jY Zk;have f1:=xG h.pn h1 rfl;have f2:=xG h.pn h2 rfl;rw[f1]at f2;simp only[Option.some.injEq,Prod.mk.injEq]at f2;exact f2.1
 refine⟨fun i=>?_,?_,fun i hi=>?_⟩
 ·have:C'.view.en i=(C.view.ec ⟨.put x,C.k⟩ C.l.tail).en i:=by rw[e3]
  refine this.trans ?_;show(if i=x.bE then some x else bM C.en i)=bM C.en i
  by_cases hi:i=x.bE
  ·rw[if_pos hi,hi,hxg]
  ·rw[if_neg hi]
 ·have:C'.view.k=(C.view.ec ⟨.put x,C.k⟩ C.l.tail).k:=by rw[e3]
  exact this
 ·rw[nj]at hi
  by_cases hx:i=x.bE
  ·rw[if_pos hx]at hi;simp only[Option.some.injEq]at hi;omega
  ·rw[if_neg hx]at hi;exact hx (agS i hi)
theorem MG{C C':aQ}(hb:C'.bl=C.bl)(h: ∀i,bM C'.en i=bM C.en i)(hk:C'.k=C.k):(C'.all,C'.k)=(C.all,C.k):=by rw[all_congr hb h,hk]
variable {P : jW} {k : Nat} {C : aQ} {D : az} {W : List (List bd × bT)}
theorem cf.ok(g:cf P k C D W):C.ok D∧C.bl=P.m∧C.n=P.n∧C.l.n=P.n∧8≤P.n∧P.n≤512:=by
 obtain⟨⟨p,h,_⟩,h8⟩:=g;have:=h.lx.lim;exact⟨h.ok,h.bl,h.nn,by rw[h.lg],h8,by omega⟩
theorem cf.again(g:cf P k C D W)(hk:k<4611686018427387000)(hl:1≤C.l.l.length):
  ((C.again D).1=0∧cf P (k+1) (C.again D).2.1 (C.again D).2.2 W∧(∀i,bM (C.again D).2.1.en i=bM C.en i)∧(C.again D).2.1.k=C.k∧(C.again D).2.1.l.head=C.l.head∧C.l.l.length≤(C.again D).2.1.l.l.length∧ ∀i,bM (C.again D).2.1.pu i≠some C.l.head)∨
  (¬(C.again D).1=0∧(C.again D).2.1=C∧rY P (k+1) C (C.again D).2.2 W):=by
 have hht:C.l.head<C.l.tail:=by unfold aU.tail;omega
 obtain⟨cq,hb,-⟩:=g.ok;unfold aQ.again;cases oJ:C.j9 with
 |none=>
  left
  refine⟨rfl,g.FZ,fun _=>rfl,rfl,rfl,Nat.le_refl _,fun i hi=>?_⟩;obtain⟨b,hb⟩:=jY hi;rw[vK cq.pn hb rfl]at oJ;cases oJ
 |some x=>
  dsimp only;obtain⟨oZ,hxg⟩:=cq.need oJ;rw[hb]at oZ;rcases g.add hk (r:=⟨.put x,C.k⟩) ⟨oZ,cq.k⟩with⟨e1,e2,e3,e4,e5⟩|⟨e1,e2⟩|⟨e1,e2,e3⟩
  ·left
   obtain⟨a1,a2,a3⟩:=DA cq oJ e3 hht;refine⟨e1,e2 W (fun _ h=>h) ?_,a1,a2,e5,by omega,a3⟩;rw[MG aQ.xe.1 a1 a2];exact CX.now g
  ·right
   exact⟨by rw[e1];decide,by rw[e2],by rw[e2];exact .inl g.FZ⟩
  ·right
   exact⟨by rw[e1];decide,e2,.inr e3.FZ⟩
theorem cf.oS: ∀(f:Nat) {k:Nat} {C:aQ} {D:az},cf P k C D W→k+2*f<4611686018427387000→
  (∀i,bM (aQ.oS f C D).2.1.en i=bM C.en i)∧(aQ.oS f C D).2.1.k=C.k∧rY P (k+2*f) (aQ.oS f C D).2.1 (aQ.oS f C D).2.2 W∧((aQ.oS f C D).1=0→cf P (k+2*f) (aQ.oS f C D).2.1 (aQ.oS f C D).2.2 W)
 |0,k,C,D,g,hk=>⟨fun _=>rfl,rfl,.inl g,fun _=>g⟩
 |f+1,k,C,D,g,hk=>by
  obtain⟨cq,hb,hn,Wy,h8,Le⟩:=g.ok;unfold aQ.oS
  by_cases Ez:4≤C.free
  ·rw[if_pos Ez];exact⟨fun _=>rfl,rfl,.inl (g.le (by omega)),fun _=>g.le (by omega)⟩
  rw[if_neg Ez];have hl:5≤C.l.l.length:=by unfold aQ.free at Ez;omega
  rcases g.again (by omega) (by omega)with⟨e1,e2,e3,e4,e5,e6,e7⟩|⟨e1,e2,e3⟩
  ·rw[if_neg (by rw[e1];exact fun h=>h rfl)];rcases e2.cut (by omega) (by omega) (by rw[e5];exact e7)with⟨q1,q2,L',q3,q4,q5,q6⟩|⟨q1,q2,q3⟩
   ·rw[e5]at q1 q2 q3;rw[if_neg (by rw[q1];exact fun h=>h rfl)];obtain⟨i1,i2,i3,i4⟩:=cf.oS f q2 (by omega);rw[show k+2*(f+1)=k+1+1+2*f by omega];refine⟨fun i=>(i1 i).trans ?_,i2.trans ?_,i3,i4⟩
    · rw[q3];exact e3 i
    · rw[q3];exact e4
   ·rw[e5]at q1 q2 q3;rw[if_pos (by rw[q1];decide)];refine⟨fun i=>by rw[q2];exact e3 i,by rw[q2];exact e4,.inr (q3.le (by omega)),fun h=>by rw[q1]at h;cases h⟩
  ·rw[if_pos e1];exact⟨fun i=>by rw[e2],by rw[e2],by rw[e2];exact e3.le (by omega),fun h=>absurd h e1⟩
structure SP(P:jW)(k:Nat)(W:List (List bd × bT))(C:aQ)(r:bI)(w:Int × aQ × az):Prop where
 yes:w.1=0→(∀i,bM w.2.1.en i=N7 (bM C.en) r.w i)∧w.2.1.k=r.k∧ ∀W',(∀x∈W,x∈W')→(w.2.1.all,w.2.1.k)∈W'→cf P k w.2.1 w.2.2 W'
 no: ¬w.1=0→(∀i,bM w.2.1.en i=bM C.en i)∧w.2.1.k=C.k∧rY P k w.2.1 w.2.2 W
theorem cf.added(g:cf P k C D W)(hk:k<4611686018427387000){r:bI}(hr:r.ok P.m):SP P (k+1) W C r (C.add D r):=by
 rcases g.add hk hr with⟨e1,e2,e3,e4,e5⟩|⟨e1,e2⟩|⟨e1,e2,e3⟩
 ·refine⟨fun _=>⟨fun i=>?_,?_,e2⟩,fun h=>absurd e1 h⟩
  ·have:(C.add D r).2.1.view.en i=(C.view.ec r C.l.tail).en i:=by rw[e3]
   exact this
  ·have:(C.add D r).2.1.view.k=(C.view.ec r C.l.tail).k:=by rw[e3]
   exact this
 ·refine⟨fun h=>(by rw[e1]at h;cases h),fun _=>?_⟩;rw[e2];exact⟨fun _=>rfl,rfl,.inl g.FZ⟩
 ·refine⟨fun h=>(by rw[e1]at h;cases h),fun _=>?_⟩;rw[e2];exact⟨fun _=>rfl,rfl,.inr e3.FZ⟩
theorem cf.eH(g:cf P k C D W)(hk:k+2000<4611686018427387000){r:bI}(hr:r.ok P.m):SP P (k+1100) W C r (C.eH D r):=by
 obtain⟨cq,hb,hn,Wy,h8,Le⟩:=g.ok;obtain⟨a1,a2,a3,a4⟩:=cf.oS C.n g (by rw[hn];omega);rw[hn]at a1 a2 a3 a4;unfold aQ.eH aQ.make;rw[hn]
 by_cases c:(aQ.oS P.n C D).1=0
 ·rw[if_neg (by rw[c];exact fun h=>h rfl)];have hc:=(a4 c).added (by omega) hr;refine⟨fun h=>?_,fun h=>?_⟩
  ·obtain⟨q1,q2,q3⟩:=hc.yes h;refine⟨fun i=>?_,q2,fun W' hw ee=>(q3 W' hw ee).le (by omega)⟩;rw[q1];rw[show bM (aQ.oS P.n C D).2.1.en=bM C.en from funext a1]
  ·obtain⟨q1,q2,q3⟩:=hc.no h;exact⟨fun i=>(q1 i).trans (a1 i),q2.trans a2,q3.le (by omega)⟩
 ·rw[if_pos c];exact⟨fun h=>absurd h c,fun _=>⟨a1,a2,a3.le (by omega)⟩⟩
theorem SP.go{k:Nat}{C:aQ}{r:bI}{w:Int × aQ × az}(h:SP P k W C r w){W':List (List bd × bT)}(hw: ∀x∈W,x∈W')(ee:(w.2.1.all,w.2.1.k)∈W'):rY P k w.2.1 w.2.2 W':=by
 by_cases c:w.1=0
 · exact .inl ((h.yes c).2.2 W' hw ee)
 · exact(h.no c).2.2.more hw
theorem Nv{C C':aQ}{D:az}(h:C.ok D)(hb:C'.bl=C.bl){b:Int}(he: ∀i,bM C'.en i=if i=b then none else bM C.en i):C'.all=C.all.filter fun x=>decide (x.bE≠b):=by
 unfold aQ.all;rw[hb];generalize C.bl=m
 induction m with
 |zero=>rfl
 |succ m ih=>
  rw[hX,hX,he,ih]
  by_cases e:(m:Int)=b
  ·rw[if_pos e];cases hg:bM C.en (m:Nat)with
   |none=>rfl
   |some x=>
    dsimp only;have:=(jG h hg).2;rw[List.filter_append];simp[this,e]
  ·rw[if_neg e];cases hg:bM C.en (m:Nat)with
   |none=>rfl
   |some x=>
    dsimp only;have:=(jG h hg).2;rw[List.filter_append];simp[this,e]
def Kp(l:List bd)(b:Int):List bd:=l.filter fun x=>decide (x.bE≠b)
def Oh(C:aQ)(b:Int):Bool:= !(bM C.en b).isSome&&decide ((C.n:Int)- 6≤(C.all.length:Int))
def JX(C:aQ):List (List bd × bT):=(C.all.filter fun y=> !y.bZ).map fun y=>(Kp C.all y.bE,C.k)
theorem Yb{C:aQ}{D:az}(h:C.ok D):C.en.length=C.all.length:=by rw[Yc h,Je]
theorem cf.put(g:cf P k C D W)(hk:k+4000<4611686018427387000){x:bd}{W':List (List bd × bT)}(hw: ∀y∈W,y∈W')(hm:Oh C x.bE=true→ ∀y∈JX C,y∈W')(ee:((C.put D x).2.1.all,(C.put D x).2.1.k)∈W'):
  rY P (k+2200) (C.put D x).2.1 (C.put D x).2.2 W':=by
 obtain⟨cq,hb,hn,Wy,h8,Le⟩:=g.ok;have g0:rY P (k+2200) C D W':= .inl ((g.le (by omega)).more hw);unfold aQ.put at ee ⊢
 by_cases c1:ER C.bl x.bE=false
 ·rw[if_pos c1];exact g0
 rw[if_neg c1]at ee ⊢
 by_cases c2: ¬(x.data.length:Int)=8
 ·rw[if_pos c2];exact g0
 rw[if_neg c2]at ee ⊢
 by_cases c3:ji C x=true
 ·rw[if_pos c3];exact g0
 rw[if_neg c3]at ee ⊢;have oZ:=(GC (by simpa using c1) (by omega) (by simpa using c3)).1;have vC:bI.ok P.m ⟨.put x,pS C.k x⟩:=⟨by rw[←hb];exact oZ,CK cq.k oZ⟩
 by_cases c4:(bM C.en x.bE).isSome=true∨(C.en.length:Int)<(C.n:Int)- 6
 ·rw[if_pos c4]at ee ⊢;exact((g.eH (by omega) vC).go hw ee).le (by omega)
 rw[if_neg c4]at ee ⊢
 by_cases c5:C.spare.2=false
 ·rw[if_pos c5];exact g0
 rw[if_neg c5]at ee ⊢;have hs:C.spare.2=true:=by simpa using c5
 obtain⟨y,y1,y2,y3⟩:=y9 hs;have hdo:bI.ok P.m ⟨.drop C.spare.1,C.k⟩:=⟨by rw[←hb];exact tK cq hs,cq.k⟩;have hc:=g.eH (r:=⟨.drop C.spare.1,C.k⟩) (by omega) hdo
 by_cases c6:(C.eH D ⟨.drop C.spare.1,C.k⟩).1=0
 ·rw[if_neg (fun h=>h c6)]at ee ⊢;obtain⟨q1,q2,q3⟩:=hc.yes c6;have sP:(C.eH D ⟨.drop C.spare.1,C.k⟩).2.1.bl=C.bl:=aQ.kl.1
  have lQ:(C.eH D ⟨.drop C.spare.1,C.k⟩).2.1.all=Kp C.all y.bE:=by
   rw[Nv cq sP (b:=C.spare.1) (fun i=>q1 i),y3];rfl
  have apr:((C.eH D ⟨.drop C.spare.1,C.k⟩).2.1.all,(C.eH D ⟨.drop C.spare.1,C.k⟩).2.1.k)∈W':=by
   rw[lQ,q2];refine hm ?_ _ (List.mem_map.2 ⟨y,List.mem_filter.2 ⟨y1,by rw[y2];rfl⟩,rfl⟩);unfold Oh;rw[←Yb cq];simp only[not_or]at c4;rw[Bool.and_eq_true,decide_eq_true_eq];exact⟨by simpa using c4.1,by omega⟩
  have hL:=q3 W' hw apr;exact((hL.added (by omega) vC).go (fun _ h=>h) ee).le (by omega)
 ·rw[if_pos c6]at ee ⊢;exact((hc.no c6).2.2.more hw).le (by omega)
end Go.Sl
namespace Go.Sl
variable {P : jW} {k : Nat} {C : aQ} {D : az} {W W' : List (List bd × bT)}
theorem cf.clean(g:cf P k C D W)(hk:k+4000<4611686018427387000){b e s:Int}(hw: ∀y∈W,y∈W')(ee:((C.clean D b e s).2.1.all,(C.clean D b e s).2.1.k)∈W'):rY P (k+2200) (C.clean D b e s).2.1 (C.clean D b e s).2.2 W':=by
 obtain⟨cq,hb,hn,Wy,h8,Le⟩:=g.ok;have g0:rY P (k+2200) C D W':= .inl ((g.le (by omega)).more hw);unfold aQ.clean at ee ⊢;cases hg:bM C.en b with
 |none=>exact g0
 |some y=>
  rw[hg]at ee;dsimp only at ee ⊢
  by_cases c1: ¬(y.ve=e∧y.vs=s)
  ·rw[if_pos c1];exact g0
  rw[if_neg c1]at ee ⊢
  by_cases c2:y.bZ=false
  ·rw[if_pos c2];exact g0
  rw[if_neg c2]at ee ⊢;obtain⟨h1,h2⟩:=jG cq hg
  have vC:bI.ok P.m ⟨.clean b e s,C.k⟩:=by
   have c1:y.ve=e∧y.vs=s:=by simpa using c1
   refine⟨?_,cq.k⟩;rw[←hb];refine⟨by rw[←h2];exact h1.bE,by rw[←c1.1];exact h1.ve,by rw[←c1.2];exact h1.vs⟩
  exact((g.eH (by omega) vC).go hw ee).le (by omega)
theorem cf.drop(g:cf P k C D W)(hk:k+4000<4611686018427387000){b:Int}(hw: ∀y∈W,y∈W')(ee:((C.drop D b).2.1.all,(C.drop D b).2.1.k)∈W'):rY P (k+2200) (C.drop D b).2.1 (C.drop D b).2.2 W':=by
 obtain⟨cq,hb,hn,Wy,h8,Le⟩:=g.ok;have g0:rY P (k+2200) C D W':= .inl ((g.le (by omega)).more hw);unfold aQ.drop at ee ⊢
 by_cases c:(bM C.en b).isSome=true
 ·rw[if_pos c]at ee ⊢;obtain⟨y,hy⟩:=Option.isSome_iff_exists.1 c;obtain⟨h1,h2⟩:=jG cq hy;have vC:bI.ok P.m ⟨.drop b,C.k⟩:=⟨by rw[←hb,←h2];exact h1.bE,cq.k⟩;exact((g.eH (by omega) vC).go hw ee).le (by omega)
 ·rw[if_neg c];exact g0
theorem cf.reset(g:cf P k C D W)(hk:k+4000<4611686018427387000){e s:Int}{ns:List Int}(hw: ∀y∈W,y∈W')(ee:((C.reset D e s ns).2.1.all,(C.reset D e s ns).2.1.k)∈W'):rY P (k+2200) (C.reset D e s ns).2.1 (C.reset D e s ns).2.2 W':=by
 obtain⟨cq,hb,hn,Wy,h8,Le⟩:=g.ok;have g0:rY P (k+2200) C D W':= .inl ((g.le (by omega)).more hw);unfold aQ.reset at ee ⊢
 by_cases c:mS e s ns=true
 · rw[if_pos c];exact g0
 rw[if_neg c]at ee ⊢;obtain⟨he,hs,a,b,c',d,rfl,h1,h2,h3,h4⟩:=nI (by simpa using c);have vC:bI.ok P.m ⟨.note,⟨e,s,FR [a,b,c',d]⟩⟩:=⟨trivial,⟨he,hs,h1,h2,h3,h4⟩⟩;exact((g.eH (by omega) vC).go hw ee).le (by omega)
theorem cf.note(g:cf P k C D W)(hk:k+4000<4611686018427387000){e s:Int}{ns:List Int}(hw: ∀y∈W,y∈W')(ee:((C.note D e s ns).2.1.all,(C.note D e s ns).2.1.k)∈W'):rY P (k+2200) (C.note D e s ns).2.1 (C.note D e s ns).2.2 W':=by
 obtain⟨cq,hb,hn,Wy,h8,Le⟩:=g.ok;have g0:rY P (k+2200) C D W':= .inl ((g.le (by omega)).more hw);unfold aQ.note at ee ⊢
 by_cases c:mS e s ns=true
 · rw[if_pos c];exact g0
 rw[if_neg c]at ee ⊢;obtain⟨he,hs,a,b,c',d,rfl,h1,h2,h3,h4⟩:=nI (by simpa using c);have vC:bI.ok P.m ⟨.note,yC C.k e s (FR [a,b,c',d])⟩:=⟨trivial,yE cq.k he hs h1 h2 h3 h4⟩;exact((g.eH (by omega) vC).go hw ee).le (by omega)
theorem cf.sync(g:cf P k C D W)(hk:k<4611686018427387000):
  (C.sync D).2.1=C∧(((C.sync D).1=0∧cf P k C (C.sync D).2.2 [(C.all,C.k)])∨(¬(C.sync D).1=0∧iQ P k (C.sync D).2.2 W)):=by
 refine⟨rfl,?_⟩;have g0:=g;obtain⟨⟨p,h,hS⟩,h8⟩:=g;rcases h.lx.sync hk with⟨b0,b1,b2,b3⟩|⟨b0,b1,b2⟩
 ·left
  refine⟨b0,⟨C.l.l.length,⟨?_,b2,h.lg.trans (by rw[show aF (C.sync D).2.2 P.a P.b=aF D P.a P.b from b3]),h.bl,h.nn,h.rp⟩,fun q q1 q2=>?_⟩,h8⟩
  ·have:=h.ok;exact⟨aU.NB this.l,this.bl,this.n,this.n8,this.m,this.k,this.en,this.keys,this.pv,this.pn⟩
  ·rw[Nat.le_antisymm q2 q1,List.take_length];exact⟨_,h.rp,by rw[←h.bl,nH];simp⟩
 ·right
  exact⟨by show¬D.aJ.1=0;rw[b0];decide,g0.RY hk b2 b1⟩
theorem v8(hd:D.dead=true)(i:Int)(bs:Bytes):D.write i bs=(30,D):=by
 have:D.has i=30:=by unfold az.has;rw[if_pos hd]
 unfold az.write;rw[this,if_pos (by decide)]
theorem um(hd:D.dead=true):D.aJ=(30,D):=by unfold az.aJ;rw[if_pos hd]
theorem BE(hd:D.dead=true)(L:aU)(s:Bytes):(L.append D s).2.2=D:=by
 unfold aU.append;split
 ·rfl
 ·split
  ·rfl
  ·split
   · rfl
   · dsimp only;rw[v8 hd]
theorem zi(hd:D.dead=true)(L:aU)(m:Int):(L.trim D m).2.2=D:=by
 unfold aU.trim;split
 · rfl
 · rw[um hd];rfl
theorem ue(hd:D.dead=true)(C:aQ)(r:bI):(C.add D r).2.2=D:=BE hd _ _
theorem o6(hd:D.dead=true)(C:aQ):(C.again D).2.2=D:=by
 unfold aQ.again;split
 · exact ue hd _ _
 · rfl
theorem uO(hd:D.dead=true): ∀(f:Nat) (C:aQ),(aQ.oS f C D).2.2=D
 |0,C=>rfl
 |f+1,C=>by
  unfold aQ.oS;split
  ·rfl
  ·split
   ·exact o6 hd C
   ·split
    ·rw[o6 hd];exact zi hd _ _
    ·rw[o6 hd];have:((C.again D).2.1.cut D (C.l.head+1)).2.2=D:=zi hd _ _;rw[this];exact uO hd f _
theorem jj(hd:D.dead=true)(C:aQ)(r:bI):(C.eH D r).2.2=D:=by
 unfold aQ.eH;split
 ·exact uO hd _ _
 ·have:(C.make D).2.2=D:=uO hd _ _;rw[this];exact ue hd _ _
theorem ur(hd:D.dead=true)(C:aQ)(kind:Int)(x:bd)(ns:List Int):(m0 C D kind x ns).2.2=D:=by
 unfold m0;split
 ·unfold aQ.put;split
  ·rfl
  ·split
   ·rfl
   ·split
    ·rfl
    ·split
     ·exact jj hd _ _
     ·split
      ·rfl
      ·split
       · exact jj hd _ _
       · rw[jj hd];exact ue hd _ _
 ·split
  ·unfold aQ.clean;split
   ·rfl
   ·split
    ·rfl
    ·split
     ·rfl
     ·exact jj hd _ _
  ·split
   ·unfold aQ.drop;split
    ·exact jj hd _ _
    ·rfl
   ·split
    ·unfold aQ.note;split
     ·rfl
     ·exact jj hd _ _
    ·split
     ·unfold aQ.reset;split
      ·rfl
      ·exact jj hd _ _
     ·split
      ·show D.aJ.2=D;rw[um hd]
      ·rfl
theorem rY.m0(g:rY P k C D W)(hk:k+4000<4611686018427387000)(kind:Int)(x:bd)(ns:List Int)(hw: ∀y∈W,y∈W')(hm:kind=0→Oh C x.bE=true→ ∀y∈JX C,y∈W')(ee:((m0 C D kind x ns).2.1.all,(m0 C D kind x ns).2.1.k)∈W'):
  rY P (k+2200) (m0 C D kind x ns).2.1 (m0 C D kind x ns).2.2 W'∧(kind=4→(m0 C D kind x ns).1=0→rY P (k+2200) (m0 C D kind x ns).2.1 (m0 C D kind x ns).2.2 [((m0 C D kind x ns).2.1.all,(m0 C D kind x ns).2.1.k)]):=by
 rcases g with g|g
 ·unfold Go.Sl.m0 at ee ⊢
  by_cases c0:kind=0
  ·rw[if_pos c0]at ee ⊢;exact⟨g.put hk hw (hm c0) ee,fun h=>by omega⟩
  rw[if_neg c0]at ee ⊢
  by_cases c1:kind=1
  ·rw[if_pos c1]at ee ⊢;exact⟨g.clean hk hw ee,fun h=>by omega⟩
  rw[if_neg c1]at ee ⊢
  by_cases c2:kind=2
  ·rw[if_pos c2]at ee ⊢;exact⟨g.drop hk hw ee,fun h=>by omega⟩
  rw[if_neg c2]at ee ⊢
  by_cases c3:kind=3
  ·rw[if_pos c3]at ee ⊢;exact⟨g.note hk hw ee,fun h=>by omega⟩
  rw[if_neg c3]at ee ⊢
  by_cases c8:kind=8
  ·rw[if_pos c8]at ee ⊢;exact⟨g.reset hk hw ee,fun h=>by omega⟩
  rw[if_neg c8]at ee ⊢
  by_cases c4:kind=4
  ·rw[if_pos c4]at ee ⊢;obtain⟨e,h⟩:=g.sync (by omega);rw[e]at ee ⊢;rcases h with⟨h1,h2⟩|⟨h1,h2⟩
   · exact⟨.inl ((h2.le (by omega)).more fun y hy=>by simp at hy;subst hy;exact ee),fun _ _=> .inl (h2.le (by omega))⟩
   · exact⟨.inr ((h2.le (by omega)).more hw),fun _ h=>absurd h h1⟩
  ·rw[if_neg c4]at ee ⊢;exact⟨.inl ((g.le (by omega)).more hw),fun h=>absurd h c4⟩
 ·have hs:=ur g.dead C kind x ns;rw[hs];refine⟨.inr ((g.le (by omega)).more hw),fun h4 h0=>?_⟩;exfalso;subst h4;have:(Go.Sl.m0 C D 4 x ns).1=D.aJ.1:=rfl;rw[this,um g.dead]at h0;cases h0
theorem vh(x:Int): ∀(is:List Int) (ks:dq) (ls:List Bytes),fb (D.gZ x) is ks ls=fb D is ks ls
 | [],ks,ls=>by rw[gD,gD]
 |i::is,[],ls=>by rw[kz,kz]
 |i::is,y::ks,ls=>by
  unfold fb;exact vh x is ks _
theorem xv(D:az)(x:Int)(ks:dq):(D.gZ x).bD ks=D.bD ks:=by
 unfold az.bD;show({D with l:=fb (D.gZ x) D.pending ks D.l,es:=[],dead:=false,dA:= -1}:az)=_;rw[vh]
theorem rY.dA(g:rY P k C D W){x:Int}(hx:x≤9223372036854775807):rY P k C (D.gZ x) W:=by
 rcases g with⟨⟨p,h,hS⟩,h8⟩|g
 ·left
  refine⟨⟨p,⟨?_,h.lx.dA hx,h.lg,h.bl,h.nn,h.rp⟩,hS⟩,h8⟩;have:=h.ok;have l:=this.l;exact⟨⟨l.n,l.first,l.c,l.head,l.time,l.least,l.l,l.M9,l.tail,az.kd l.d hx⟩,this.bl,this.n,this.n8,this.m,this.k,this.en,this.keys,this.pv,this.pn⟩
 ·right
  exact⟨az.kd g.ok hx,g.dead,g.len,fun ks kn=>by rw[xv];exact g.out ks kn⟩
end Go.Sl
namespace Go.Sl
theorem LR.cache{P:jW}{k:Nat}{D:az}{h T le:Int}{l:List (Bytes × Int)}{V:zw}(hR:LR P.first P.n P.a P.b D P.N k h T le l)(hk:k<4611686018427387000)(h8:8≤P.n)(hm:1≤P.m∧P.m≤32)(hV:replay P.m l h zeroV=some V):
  ∃C' D',bQ D P.first P.n P.a P.b P.m=(0,C',D')∧cf P (k+1) C' D' [(C'.all,C'.k)]∧C'.view=V:=by
 obtain⟨D',e1,e2,e3,e4,e5⟩:=hR.opened hk;have Cd:=rF (first:=P.first) (n:=P.n) (a:=P.a) (b:=P.b) hR.lv.ok (by rw[e1]);rw[e1]at Cd
 obtain⟨C',c1,c2⟩:=vI l h (gB ⟨P.first,P.n,aF D' P.a P.b,h,T+1,le,l⟩ P.m) ⟨wM,wM⟩ V (by
  have:(gB ⟨P.first,P.n,aF D' P.a P.b,h,T+1,le,l⟩ P.m).view=zeroV:=rfl;rw[this];exact hV)
 have hI:=F5.init (bl:=P.m) Cd.1 hm (show 8≤P.n by omega);have hO:=qY l hI (List.drop_zero ..) (by simpa using c1);have hl:=hO.l
 have hx:CX P (k+1) C' D' l.length:=by
  refine⟨hO.ok,?_,?_,hO.b,?_,?_⟩
  · rw[hl];exact e2
  · rw[hl]
  · rw[hO.ok.n,hl]
  · rw[hl,c2];exact hV
 have EP:Km P.m C'.view=(C'.all,C'.k):=by rw[←hO.b,nH]
 refine⟨C',D',?_,⟨⟨l.length,hx,fun q q1 q2=>?_⟩,h8⟩,c2⟩
 ·unfold bQ;rw[if_neg (by omega),e1,if_neg (by simp)];dsimp only;rw[Int.toNat_natCast,c1]
 ·have oI:C'.l.l=l:=by rw[hl]
  rw[oI]at q2 ⊢;have hq:q=l.length:=by omega
  rw[hq,List.take_length];have:=hx.rp;rw[oI]at this;exact⟨_,this,by rw[EP];simp⟩
end Go.Sl