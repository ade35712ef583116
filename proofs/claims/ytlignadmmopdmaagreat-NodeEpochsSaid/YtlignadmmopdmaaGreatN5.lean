/- A part of the proof. -/
import Derived.Test.YtlignadmmopdmaaGreatUn
import Derived.Test.YtlignadmmopdmaaGreatN2
import Derived.Test.YtlignadmmopdmaaGreatR3
set_option linter.unusedVariables false
set_option linter.unusedSimpArgs false
set_option linter.constructorNameAsVariable false
namespace Go.Proofs
open _root_.Go.Proofs.Tryz
open Go Go.Sl
namespace W
structure NF where
 p:Nat
 q:Q3
 pf:Nat
 pl:Nat
 pc:Nat
 A:uc
structure NV where
 out:Sv
 sw:Sv
 ps:Nat
 si:Sv
 sl:Sv
abbrev qL(t:T4):List Value:=[i64 t.a,i64 t.b,i64 t.c,i64 t.d]
def bB(F:NF)(V:NV)(n:aa):ax:=sc F.p [i64 n.id,i64 n.serial,i64 n.lease,i64 n.patience,i64 n.blocks,ptr F.pf,ptr F.pl,ptr F.A.p,i64 n.left,.bool n.down,.bool n.lost,i64 n.ah,i64 n.mask,i64 n.clock,i64 n.born,i64 n.change,i64 n.done.a,i64 n.done.b,i64 n.done.c,i64 n.done.d,i64 n.fj.a,i64 n.fj.b,i64 n.fj.c,i64 n.fj.d,i64 n.cT,aG V.out n.out.length,i64 n.role,i64 n.want,i64 n.cm,i64 n.quiet,aG V.sw n.waits.length,ptr V.ps] 106
def gH(V:NV)(n:aa):ax:=aD V.out 42 (fG n.out)
def iK(V:NV)(n:aa):ax:=aD V.sw 177 (a6 n.waits)
abbrev nE(V:NV)(n:aa):Prop:=bW V.out n.out.length 3 (fG n.out)
abbrev R8(V:NV)(n:aa):Prop:=bW V.sw n.waits.length 7 (a6 n.waits)
theorem qm [Env]{R:List ax}{n lo hi:Int}:bC Tryz.prog 41 [i64 n,i64 lo,i64 hi] [] R (Is (.bool (aI n lo hi)) []):=by
 refine ag func41 ntmps41 rfl rfl ?_;refine gc 9 ?_;refine cv 10 rfl (fun h6=>?_) (fun h6=>?_)
 ·refine gy 8 ?_;refine aj results41 rfl (L1:=R) ae ?_;exact⟨_,⟨by(simp[aI];omega),rfl⟩,by rfl⟩
 refine gy 8 ?_;refine aj results41 rfl (L1:=R) ae ?_;exact⟨_,⟨by(simp[aI];omega),rfl⟩,by rfl⟩
theorem vJ [Env]{R:List ax}{F:NF}{V:NV}{n:aa}(hi:n.id=0∨n.id=1):bC Tryz.prog 63 [ptr F.p] [bB F V n] R (Is (i64 n.peer) [bB F V n]):=by
 refine ag func63 ntmps63 rfl rfl ?_;unfold bB;refine gc 10 ?_;rw[wr (by omega) (by omega)];refine gy 4 ?_;refine aj results63 rfl (L1:=[sc F.p _ 106]++R) ae ?_;exact⟨_,⟨by rfl,rfl⟩,by rfl⟩
theorem Ib [Env]{R:List ax}{F:NF}{V:NV}{n:aa}(hi:n.id=0∨n.id=1):bC Tryz.prog 163 [ptr F.p] [bB F V n] R (Is (i64 n.own) [bB F V n]):=by
 refine ag func163 ntmps163 rfl rfl ?_;unfold bB;refine gc 10 ?_;rw[wr (by omega) (by omega)];refine gy 4 ?_;refine aj results163 rfl (L1:=[sc F.p _ 106]++R) ae ?_;exact⟨_,⟨by rfl,rfl⟩,by rfl⟩
theorem oc [Env]{R:List ax}{F:NF}{V:NV}{n:aa}:bC Tryz.prog 118 [ptr F.p] [bB F V n] R (Is (.bool n.alone) [bB F V n]):=by
 refine ag func118 ntmps118 rfl rfl ?_;unfold bB;refine gc 14 ?_;refine aj results118 rfl (L1:=[sc F.p _ 106]++R) ae ?_;exact⟨_,⟨by rfl,rfl⟩,by rfl⟩
theorem lH [Env]{R:List ax}{F:NF}{V:NV}{n:aa}:bC Tryz.prog 114 [ptr F.p] [bB F V n] R (Is (.bool n.jE) [bB F V n]):=by
 refine ag func114 ntmps114 rfl rfl ?_;refine gc 6 ?_;refine bK (oc) call118 ?_;unfold bB;refine gy 2 ?_;refine cv 6 rfl (fun Lc=>?_) (fun Lc=>?_)
 ·refine gy 11 ?_;refine aj results114 rfl (L1:=[sc F.p _ 106]++R) ae ?_;exact⟨_,⟨by(unfold aa.jE;simp_all),rfl⟩,by rfl⟩
 refine gy 11 ?_;refine aj results114 rfl (L1:=[sc F.p _ 106]++R) ae ?_;exact⟨_,⟨by(unfold aa.jE;simp_all),rfl⟩,by rfl⟩
theorem qP [Env]{R:List ax}{F:NF}{V:NV}{n:aa}{e:Int}:bC Tryz.prog 121 [ptr F.p,i64 e] [bB F V n] R (Is (.bool (decide (e=0))) [bB F V (n.err e)]):=by
 unfold aa.err;refine ag func121 ntmps121 rfl rfl ?_;unfold bB;refine gc 11 ?_;refine cv 10 rfl (fun Lf=>?_) (fun Lf=>?_)
 ·refine gy 5 ?_;refine bA (an rfl rfl (by rfl) sizeOf4 bc rfl rfl) ?_;refine gy 9 ?_;refine aj results121 rfl (L1:=[sc F.p _ 106]++R) ae ?_;exact⟨_,⟨by rfl,rfl⟩,by simp_all⟩
 refine gy 5 ?_;refine bA (an rfl rfl (by rfl) sizeOf4 bc rfl rfl) ?_;refine gy 9 ?_;refine aj results121 rfl (L1:=[sc F.p _ 106]++R) ae ?_;exact⟨_,⟨by rfl,rfl⟩,by simp_all⟩
def Dn(F:NF)(V:NV)(n':aa)(v:Value)(L':List ax):Prop:=
 ∃s,v= .tuple #[]∧bW s n'.out.length 3 (fG n'.out)∧L'=[bB F {V with out:=s} n',aD s 42 (fG n'.out)]
set_option maxHeartbeats 1000000 in
theorem nw [Env]{R:List ax}{F:NF}{V:NV}{n:aa}{to:Int}{m:aM}(ho:nE V n)(hl:n.out.length≤1000000):
   bC Tryz.prog 67 [ptr F.p,i64 to,.agg m.cells.toArray] [bB F V n,gH V n] R (Dn F V (n.send to m)):=by
 refine ag func67 ntmps67 rfl rfl ?_;refine gc 1 ?_;refine ya (a7 (vs:=m.cells) rfl rfl) rfl ?_;rintro v L' ⟨b5,rfl,rfl⟩;refine gy 3 ?_;refine y (ak rfl isAgg34 sizeOf34 aL (by rfl)) rfl ?_;refine bK (UP) call123 ?_;refine gy 7 ?_;refine aS 16 (od [12,13] 16 0) ([sc b5 _ 34,sc F.p _ 106]++R) Tryz.mixed (by kernel_rfl) ae ?_;unfold bB gH;refine gh 11 ?_;refine hr rfl (cA (gI.cells ⟨n.id,to,dF m⟩)) rfl ?_;refine ha rfl (aE rfl underlying45 sizeOf42 zeroValue42 rfl rfl rfl rfl ⟨⟨_,_,rfl,(by rfl),(by decide)⟩,trivial⟩ (by dsimp[bt,aX,aY,bS]<;>rfl)) rfl ?_;rintro v L' ⟨b25,rfl,rfl⟩;refine⟨ae,?_⟩;refine ha rfl (aO (s:=V.out) (xs:=fG n.out) (m:=n.out.length) (k:=1) (us:=gI.cells ⟨n.id,to,dF m⟩) (size:=3) rfl rfl (by repeat first|exact .z|apply Pk.s) underlying45 underlying45 (by intro q hq;cases hq) typeInfo42 rfl rfl rfl ?aa7 ?alY ?akg ?aeg) rfl ?_
 case aa7=>exact ho
 case alY=>exact cz aL rfl rfl
 case akg=>exact Uz _
 case aeg=>show(_+_)*33≤_;omega
 rintro v L' ⟨s26,rfl,Ad,rfl⟩;refine⟨ae,?_⟩;rw[←HZ]at Ad ⊢;refine gh 3 ?_;refine bA (an rfl rfl (by exact bN _ _) sizeOf45 bc rfl rfl) ?_;refine gy 1 ?_;refine aN results67 (L1:=[sc F.p _ 106,aD s26 _ _]++R) ae ?_;unfold Dn bB aa.send;dsimp only;rw[List.length_append];exact⟨_,⟨s26,rfl,Ad,rfl⟩,rfl⟩
set_option maxHeartbeats 1000000 in
theorem aav [Env]{R:List ax}{F:NF}{V:NV}{n:aa}{x:dY}(hi:n.id=0∨n.id=1)(ho:nE V n)(hl:n.out.length≤1000000):
   bC Tryz.prog 160 [ptr F.p,itC x] [bB F V n,gH V n] R (Dn F V (n.put x)):=by
 refine ag func160 ntmps160 rfl rfl ?_;refine gc 1 ?_;refine ya (a7 (vs:=x.cells) rfl rfl) rfl ?_;rintro v L' ⟨b3,rfl,rfl⟩;refine gy 2 ?_;refine aS 22 [(0,true),(1,true),(3,true),(4,true),(5,true),(6,true),(7,true),(8,true),(9,true),(10,true),(11,true),(12,true),(13,true),(14,true),(15,true),(16,true),(17,true),(18,true),(19,true),(20,true),(21,true),(2,false)] (_) Tryz.mixed (by kernel_rfl) .refl ?_;refine gh 17 ?_;refine hr rfl (ay (u:=qL n.done) rfl isAgg32 sizeOf32 aL rfl rfl) rfl ?_;refine gh 2 ?_;refine hr rfl (cA (aM.cells ⟨5,n.ah,x.seq,x.n,x.bE,x.cl,0,n.done.a,n.done.b,n.done.c,n.done.d,x.data,[]⟩)) rfl ?_;refine bg rfl (vJ ?aia) rfl call63 aZ rfl ?_
 case aia=>exact hi
 rintro v L' ⟨rfl,rfl⟩;refine⟨ae,?_⟩;unfold bB;refine gh 1 ?_;refine aA (nw (V:=V) (n:=n) (m:=⟨5,n.ah,x.seq,x.n,x.bE,x.cl,0,n.done.a,n.done.b,n.done.c,n.done.d,x.data,[]⟩) ?abL ?ajK) rfl call67 aZ rfl ?_
 case abL=>exact ho
 case ajK=>exact hl
 rintro v L' ⟨o26,rfl,J8,rfl⟩;refine gy 1 ?_;refine aN results160 (L1:=[bB F _ _,aD o26 _ _]++R) ae ?_;exact⟨_,⟨o26,rfl,J8,rfl⟩,rfl⟩
end W
end Go.Proofs
namespace Go.Sl
open aa
def noW(l:List ar)(b:Int)(i:Nat):Prop:= ∀j,j<i→ ∀w,l[j]? =some w→ ¬(w.op=2∧w.bE=b)
theorem Qp(l:List ar)(b:Int):noW l b 0:=fun j h=>absurd h (Nat.not_lt_zero j)
theorem E9{l:List ar}{b:Int}{i:Nat}{w:ar}(h:noW l b i)(hw:l[i]? =some w)(hn: ¬(w.op=2∧w.bE=b)):noW l b (i+1):=by
 intro j hj x hx
 by_cases e:j=i
 · subst e;rw[hw]at hx;cases hx;exact hn
 · exact h j (by omega) x hx
theorem zt{l:List ar}{b:Int}{i:Nat}{w:ar}(h:noW l b i)(hw:l[i]? =some w)(hy:w.op=2∧w.bE=b):bY l b=some i:=by
 unfold bY;obtain⟨h1,h2⟩:=List.getElem?_eq_some_iff.1 hw;rw[List.findIdx?_eq_some_iff_getElem];refine⟨h1,by rw[h2];simp[hy],fun j hj=>?_⟩;have:=h j hj l[j] (List.getElem?_eq_getElem (by omega));simpa using this
theorem zr{l:List ar}{b:Int}(h:noW l b l.length):bY l b=none:=by
 unfold bY;rw[List.findIdx?_eq_none_iff];intro w hw;obtain⟨j,hj⟩:=List.getElem?_of_mem hw;have:=h j (List.getElem?_eq_some_iff.1 hj).1 w hj;simpa using this
theorem eR{l:List ar}{b:Int}{i:Nat}(h:bY l b=some i): ∃w,l[i]? =some w∧w.op=2∧w.bE=b:=by
 unfold bY at h;rw[List.findIdx?_eq_some_iff_getElem]at h;obtain⟨h1,h2,_⟩:=h;exact⟨l[i],List.getElem?_eq_getElem h1,by simpa using h2⟩
theorem dm{n:aa}{b:Int}(h:bY n.waits b=none):n.ew b=none:=by
 unfold bY at h;unfold aa.ew;rw[List.find?_eq_none];rw[List.findIdx?_eq_none_iff]at h;intro x hx;simpa using h x hx
theorem fw{n:aa}{b:Int}{i:Nat}{w:ar}(h:bY n.waits b=some i)(hw:n.waits[i]? =some w):n.ew b=some w:=by
 unfold bY at h;unfold aa.ew;rw[List.findIdx?_eq_some_iff_getElem]at h;obtain⟨h1,h2,h3⟩:=h;obtain⟨_,h4⟩:=List.getElem?_eq_some_iff.1 hw;rw[List.find?_eq_some_iff_getElem];refine⟨by rw[←h4];exact h2,i,h1,h4,fun j hj=>?_⟩;have h5:=h3 j hj;simp at h5 ⊢
 by_cases h6:n.waits[j].op=2
 · exact .inr (h5 h6)
 · exact .inl h6
def IW(c:bT)(k:Nat):List Value:=[.int .i64 (if 0<k then fH c 0 else 0),.int .i64 (if 1<k then fH c 1 else 0),.int .i64 (if 2<k then fH c 2 else 0),.int .i64 (if 3<k then fH c 3 else 0)]
theorem RT{c:bT}{k:Nat}(h:k<4):(IW c k).set k (.int .i64 (fH c (k:Nat)))=IW c (k+1):=by
 match k,h with
 |0,_=>rfl
 |1,_=>rfl
 |2,_=>rfl
 |3,_=>rfl
def t4n(t:T4):Nat→Int
 |0=>t.a
 |1=>t.b
 |2=>t.c
 |_=>t.d
theorem RS(t:T4){k:Nat}(h:k<4):([.int .i64 t.a,.int .i64 t.b,.int .i64 t.c,.int .i64 t.d]:List Value)[k]? =some (.int .i64 (t4n t k)):=by
 match k,h with
 |0,_=>rfl
 |1,_=>rfl
 |2,_=>rfl
 |3,_=>rfl
def noM(c:bT)(t:T4)(k:Nat):Prop:= ∀j:Nat,j<k→ ¬fH c (j:Nat)<t4n t j
def noL(c:bT)(t:T4)(k:Nat):Prop:= ∀j:Nat,j<k→ ¬t4n t j<fH c (j:Nat)
theorem Qo(c:bT)(t:T4):noM c t 0:=fun j h=>absurd h (Nat.not_lt_zero j)
theorem Qm(c:bT)(t:T4):noL c t 0:=fun j h=>absurd h (Nat.not_lt_zero j)
theorem Qn{c:bT}{t:T4}{k:Nat}(h:noM c t k)(hn: ¬fH c (k:Nat)<t4n t k):noM c t (k+1):=by
 intro j hj;by_cases e:j=k
 · subst e;exact hn
 · exact h j (by omega)
theorem Ql{c:bT}{t:T4}{k:Nat}(h:noL c t k)(hn: ¬t4n t k<fH c (k:Nat)):noL c t (k+1):=by
 intro j hj;by_cases e:j=k
 · subst e;exact hn
 · exact h j (by omega)
theorem UF{n:aa}{t:T4}(h:noM n.c.k t 4):n.more t=false:=by
 have h0: ¬fH n.c.k 0<t.a:=h 0 (by omega);have h1: ¬fH n.c.k 1<t.b:=h 1 (by omega);have h2: ¬fH n.c.k 2<t.c:=h 2 (by omega);have h3: ¬fH n.c.k 3<t.d:=h 3 (by omega);unfold aa.more;simp[h0,h1,h2,h3]
theorem Uy{n:aa}{t:T4}(h:noL n.c.k t 4):n.less t=false:=by
 have h0: ¬t.a<fH n.c.k 0:=h 0 (by omega);have h1: ¬t.b<fH n.c.k 1:=h 1 (by omega);have h2: ¬t.c<fH n.c.k 2:=h 2 (by omega);have h3: ¬t.d<fH n.c.k 3:=h 3 (by omega);unfold aa.less;simp[h0,h1,h2,h3]
theorem PK{n:aa}{t:T4}{k:Nat}(hk:k<4)(h:fH n.c.k (k:Nat)<t4n t k):n.more t=true:=by
 unfold aa.more
 match k,hk with
 |0,_=>simp[show fH n.c.k 0<t.a from h]
 |1,_=>simp[show fH n.c.k 1<t.b from h]
 |2,_=>simp[show fH n.c.k 2<t.c from h]
 |3,_=>simp[show fH n.c.k 3<t.d from h]
theorem PA{n:aa}{t:T4}{k:Nat}(hk:k<4)(h:t4n t k<fH n.c.k (k:Nat)):n.less t=true:=by
 unfold aa.less
 match k,hk with
 |0,_=>simp[show t.a<fH n.c.k 0 from h]
 |1,_=>simp[show t.b<fH n.c.k 1 from h]
 |2,_=>simp[show t.c<fH n.c.k 2 from h]
 |3,_=>simp[show t.d<fH n.c.k 3 from h]
end Go.Sl
namespace Go.Proofs
open _root_.Go.Proofs.Tryz
open Go Go.Sl
namespace W
set_option maxHeartbeats 1000000
theorem rH [Env]{R:List ax}{F:NF}{V:NV}{n:aa}{x:bd}{cl num:Int}(ho:nE V n)(hl:n.out.length≤1000000):
   bC Tryz.prog 152 [ptr F.p,ib x,i64 cl,i64 num] [bB F V n,gH V n] R (Dn F V (n.store x cl num)):=by
 refine ag func152 ntmps152 rfl rfl ?_;unfold bB;refine gc 1 ?_;refine ya (a7 (vs:=[i64 x.bE,i64 x.ve,i64 x.vs,str x.data,.bool x.bZ,i64 x.cl,i64 x.n]) rfl rfl) rfl ?_;rintro v L' ⟨b5,rfl,rfl⟩;refine gy 2 ?_;refine aS 19 (od [] 19 0) (_) Tryz.mixed (by kernel_rfl) .refl ?_;refine gh 15 ?_;refine hr rfl (ay (u:=qL n.done) rfl isAgg32 sizeOf32 aL rfl rfl) rfl ?_;refine gh 2 ?_;refine hr rfl (cA (aM.cells ⟨10,n.ah,x.vs,num,x.bE,cl,0,n.done.a,n.done.b,n.done.c,n.done.d,x.data,[]⟩)) rfl ?_;refine gh 1 ?_;refine aA (nw (V:=V) (n:=n) (m:=⟨10,n.ah,x.vs,num,x.bE,cl,0,n.done.a,n.done.b,n.done.c,n.done.d,x.data,[]⟩) ?QZ ?abb) rfl call67 aZ rfl ?_
 case QZ=>exact ho
 case abb=>exact hl
 rintro v L' ⟨o27,rfl,ajt,rfl⟩;refine gy 1 ?_;refine aN results152 (L1:=[bB F _ _,aD o27 _ _]++R) ae ?_;exact⟨_,⟨o27,rfl,ajt,rfl⟩,rfl⟩
theorem E2 [Env]{R:List ax}{F:NF}{V:NV}{n:aa}{b num:Int}(ho:nE V n)(hl:n.out.length≤1000000):
   bC Tryz.prog 68 [ptr F.p,i64 b,i64 num] [bB F V n,gH V n] R (Dn F V (n.load b num)):=by
 refine ag func68 ntmps68 rfl rfl ?_;unfold bB;refine gc 8 ?_;refine y (cA (aM.cells ⟨12,n.ah,0,num,b,-1,0,0,0,0,0,[],[]⟩)) rfl ?_;refine aA (nw (V:=V) (n:=n) (m:=⟨12,n.ah,0,num,b,-1,0,0,0,0,0,[],[]⟩) ?akm ?art) rfl call67 aZ rfl ?_
 case akm=>exact ho
 case art=>exact hl
 rintro v L' ⟨o14,rfl,ajq,rfl⟩;refine gy 1 ?_;refine aN results68 (L1:=[bB F _ _,aD o14 _ _]++R) ae ?_;exact⟨_,⟨o14,rfl,ajq,rfl⟩,rfl⟩
def I4(w:ar):Value:= .agg w.cells.toArray
theorem gF [Env]{R:List ax}{F:NF}{V:NV}{n:aa}{w:ar}{e:Int}{data:Bytes}(hc:0≤w.cl∧w.cl≤3)(ho:nE V n)(hl:n.out.length≤1000000):
   bC Tryz.prog 101 [ptr F.p,I4 w,i64 e,str data] [bB F V n,gH V n] R (Dn F V (n.answer w e data)):=by
 refine ag func101 ntmps101 rfl rfl ?_;unfold bB;refine gc 1 ?_;refine ya (a7 (vs:=w.cells) rfl rfl) rfl ?_;rintro v L' ⟨b5,rfl,rfl⟩;refine gy 2 ?_;refine aS 15 (od [] 15 0) (_) Tryz.mixed (by kernel_rfl) .refl ?_;refine gh 4 ?_;rw[wr (by omega) (by omega)];refine gh 10 ?_;refine hr rfl (cA (aM.cells ⟨15,n.ah,0,w.n,w.bE,-1,e,0,0,0,0,data,[]⟩)) rfl ?_;refine gh 1 ?_;refine aA (nw (V:=V) (n:=n) (m:=⟨15,n.ah,0,w.n,w.bE,-1,e,0,0,0,0,data,[]⟩) ?Fk ?QU) rfl call67 aZ rfl ?_
 case Fk=>exact ho
 case QU=>exact hl
 rintro v L' ⟨o23,rfl,J7,rfl⟩;refine gy 1 ?_;refine aN results101 (L1:=[bB F _ _,aD o23 _ _]++R) ae ?_;exact⟨_,⟨o23,rfl,J7,rfl⟩,rfl⟩
abbrev tiP(F:NF):Value:= .pointer (some ⟨F.p,8,none⟩)
theorem WV [Env]{R:List ax}{F:NF}{V:NV}{n:aa}{z:Int}:bC Tryz.prog 161 [tiP F,i64 z] [bB F V n] R (Is (.tuple #[]) [bB F V {n with left:=max z 0}]):=by
 unfold bB;have hm:(if 0>z then 0 else z)=max z 0:=by split<;>omega
 refine ag func161 ntmps161 rfl rfl ?_;refine gc 3 ?_;refine y (mK rfl rfl) rfl ?_;rw[hm];refine gy 2 ?_;refine bA (an rfl rfl (by rfl) sizeOf2 bc rfl rfl) ?_;refine gy 1 ?_;refine aN results161 (L1:=[sc F.p _ 106]++R) ae ?_;exact⟨_,⟨by rfl,rfl⟩,by rfl⟩
theorem aax [Env]{R:List ax}{F:NF}{V:NV}{n:aa}(h:0≤n.left∧n.left≤1048576):bC Tryz.prog 66 [tiP F] [bB F V n] R (Is (.tuple #[]) [bB F V {n with left:=max (n.left- 1) 0}]):=by
 unfold bB;have hm:(if 0>n.left- 1 then 0 else n.left- 1)=max (n.left- 1) 0:=by split<;>omega
 refine ag func66 ntmps66 rfl rfl ?_;refine gc 7 ?_;rw[wr (by omega) (by omega)];refine y (mK rfl rfl) rfl ?_;rw[hm];refine gy 2 ?_;refine bA (an rfl rfl (by rfl) sizeOf2 bc rfl rfl) ?_;refine gy 1 ?_;refine aN results66 (L1:=[sc F.p _ 106]++R) ae ?_;exact⟨_,⟨by rfl,rfl⟩,by rfl⟩
theorem ahY [Env]{R:List ax}{F:NF}{V:NV}{n:aa}:bC Tryz.prog 150 [tiP F] [bB F V n] R (Is (.bool (decide (0<n.left))) [bB F V n]):=by
 unfold bB;refine ag func150 ntmps150 rfl rfl ?_;refine gc 14 ?_;refine aj results150 rfl (L1:=[sc F.p _ 106]++R) ae ?_;exact⟨_,⟨by rfl,rfl⟩,by rfl⟩
theorem P6 [Env]{R:List ax}{F:NF}{V:NV}{n:aa}:bC Tryz.prog 50 [tiP F] [bB F V n] R (Is (i64 n.left) [bB F V n]):=by
 unfold bB;refine ag func50 ntmps50 rfl rfl ?_;refine gc 13 ?_;refine aj results50 rfl (L1:=[sc F.p _ 106]++R) ae ?_;exact⟨_,⟨by rfl,rfl⟩,by rfl⟩
theorem Ia [Env]{R:List ax}{F:NF}{V:NV}{n:aa}{w:ar}{data:Bytes}(hc:0≤w.cl∧w.cl≤3)(ho:nE V n)(hl:n.out.length≤1000000):
   bC Tryz.prog 154 [ptr F.p,I4 w,str data] [bB F V n,gH V n] R (Dn F V (n.given w data)):=by
 refine ag func154 ntmps154 rfl rfl ?_;unfold bB;refine gc 1 ?_;refine ya (a7 (vs:=w.cells) rfl rfl) rfl ?_;rintro v L' ⟨b4,rfl,rfl⟩;refine gy 7 ?_;refine bK (ahY (V:=V) (n:=n)) call150 ?_;refine gy 2 ?_;refine cc rfl (fun h82=>?_) (fun h82=>?_)
 ·have hg:n.given w data=n.answer w 0 data:=by unfold aa.given;rw[if_pos (by assumption)]
  refine gc 2 ?_;refine y (ak rfl isAgg177 sizeOf177 aL (by rfl)) rfl ?_;refine gy 1 ?_;refine aA (gF (w:=w) ?aq9 ?akA ?arG) rfl call101 aZ rfl ?_
  case aq9=>exact hc
  case akA=>exact ho
  case arG=>exact hl
  rintro v L' ⟨o13,rfl,ajp,rfl⟩;refine gy 4 ?_;refine bj results154 (L1:=[bB F _ _,aD o13 _ _]++R) ae ?_;rw[hg];exact⟨_,⟨o13,rfl,ajp,rfl⟩,rfl⟩
 have hg:n.given w data=n.answer w 21 []:=by unfold aa.given;rw[if_neg (by assumption)]
 refine gc 4 ?_;refine y (ak rfl isAgg177 sizeOf177 aL (by rfl)) rfl ?_;refine aA (gF (w:=w) (data:=[]) ?ara ?akB ?arH) rfl call101 aZ rfl ?_
 case ara=>exact hc
 case akB=>exact ho
 case arH=>exact hl
 rintro v L' ⟨o16,rfl,ajr,rfl⟩;refine gy 1 ?_;refine aN results154 (L1:=[bB F _ _,aD o16 _ _]++R) ae ?_;rw[hg];exact⟨_,⟨o16,rfl,ajr,rfl⟩,rfl⟩
end W
end Go.Proofs
namespace Go.Sl
open aa
def Fp(n:aa)(x:dY):gI:=⟨n.id,n.peer,dF ⟨5,n.ah,x.seq,x.n,x.bE,x.cl,0,n.done.a,n.done.b,n.done.c,n.done.d,x.data,[]⟩⟩
theorem Ft(l:List dY)(n:aa):l.foldl put n={n with out:=n.out++l.map (Fp n)}:=by
 induction l generalizing n with
 |nil=>simp
 |cons x l ih=>
  rw[List.foldl_cons,ih];have e:(fun y=>Fp (n.put x) y)=Fp n:=rfl;show{n with out:=(n.out++[Fp n x])++l.map (Fp (n.put x))}=_;rw[show Fp (n.put x)=Fp n from rfl];simp
def my(n:aa)(k:Nat):aa:=(n.s.l.take k).foldl put n
theorem Fv(n:aa)(k:Nat):my n k={n with out:=n.out++(n.s.l.take k).map (Fp n)}:=Ft _ n
theorem Rm(n:aa)(k:Nat):(my n k).id=n.id:=by rw[Fv]
theorem IE{n:aa}{k:Nat}{x:dY}(h:n.s.l[k]? =some x):(my n k).put x=my n (k+1):=by
 unfold my;rw[dg h,List.foldl_append];rfl
theorem Mm(n:aa)(k:Nat):(my n k).out.length=n.out.length+min k n.s.l.length:=by
 rw[Fv];simp
theorem Vk(n:aa):n.kW=my n (min n.s.l.length 8):=by
 unfold kW my
 by_cases h:n.s.l.length≤8
 · rw[Nat.min_eq_left h,List.take_of_length_le h,List.take_of_length_le (Nat.le_refl _)]
 · rw[Nat.min_eq_right (by omega)]
end Go.Sl
namespace Go.Proofs
open _root_.Go.Proofs.Tryz
open Go Go.Sl
namespace W
set_option maxHeartbeats 1000000
def adH(F:NF)(V:NV)(n n':aa)(v:Value)(L':List ax):Prop:=
 ∃s,v= .tuple #[]∧bW s n'.out.length 3 (fG n'.out)∧L'=[bB F {V with out:=s} n',aD s 42 (fG n'.out),eu V.ps V.si n.s,iZ V.si n.s]
theorem J4 [Env]{R:List ax}{F:NF}{V:NV}{n:aa}(hi:n.id=0∨n.id=1)(ho:nE V n)(hl:n.out.length≤999000)(hs:qS V.si n.s)(hn:n.s.l.length≤1000000):
   bC Tryz.prog 125 [ptr F.p] [bB F V n,gH V n,eu V.ps V.si n.s,iZ V.si n.s] R (adH F V n n.kW):=by
 have hmn:(if(8:Int)<(n.s.l.length:Int)then 8 else(n.s.l.length:Int))=((min n.s.l.length 8:Nat):Int):=by split<;>omega
 obtain⟨mn,agp⟩: ∃z,min n.s.l.length 8=z:=⟨_,rfl⟩;have hpe:n.kW=my n mn:=by rw[Vk,agp]
 rw[agp]at hmn;have qO:(n.s.l.take mn).length=mn:=by rw[List.length_take];omega
 refine ag func125 ntmps125 rfl rfl ?_;unfold bB;refine gc 6 ?_;refine aA (J3 ?as2 ?sn6) rfl call124 aZ rfl ?_
 case as2=>exact hs
 case sn6=>exact hn
 rintro v L' ⟨Rv,rfl,QA,rfl⟩;have jt:cE [aD Rv 228 (kS n.s.l)] (aG Rv n.s.l.length) n.s.l.length (kS n.s.l):=bG .z QA;have SF:=jt.sl (vX QA) (s:=5) (lo:=0) (hi:=mn) (Nat.zero_le _) (by omega) (sU _);rw[Nat.zero_mul,List.drop_zero,Nat.sub_zero,LL]at SF;refine gy 6 ?_;refine y (bH rfl underlying168 (by assumption)) rfl ?_;refine y (xF rfl rfl) rfl ?_;rw[hmn];refine y (wQ jt (vX QA) rfl rfl underlying168 sizeOf228 (by omega) (by omega)) rfl ?_;refine y (bu rfl underlying168 SF.bo) rfl ?_;refine gy 4 ?_;refine bO (A:=Nat × Sv) (fun x=>[(17,i64 x.1),(16,i64 mn),(15,qB (aG Rv n.s.l.length) 0 mn 5),(0,ptr F.p)]) (fun x=>[bB F {V with out:=x.2} (my n x.1),aD x.2 42 (fG (my n x.1).out),eu V.ps V.si n.s,iZ V.si n.s,aD Rv 228 (kS n.s.l)]++R) (fun x=>x.1≤mn∧bW x.2 (my n x.1).out.length 3 (fG (my n x.1).out)) (fun x=>mn-x.1) ((0,V.out)) ?_ aq ae ?_
 · exact⟨Nat.zero_le _,ho⟩
 rintro⟨k,o⟩ bJ kt cI;obtain⟨hk,cq⟩:=bJ;dsimp only at hk cq ⊢;have Gh:=Mm n k;refine gc 5 ?_;refine cc rfl (fun nf=>?_) (fun nf=>?_)
 ·refine gc 5 ?_;obtain⟨x,hx⟩: ∃x,n.s.l[k]? =some x:=⟨_,List.getElem?_eq_getElem (by omega)⟩;have hxt:(n.s.l.take mn)[k]? =some x:=by rw[List.getElem?_take,if_pos (by omega)];exact hx
  refine y (aK SF rfl rfl underlying168 sizeOf228 (by omega) (by omega)) rfl ?_;refine y (dB (us:=x.cells) (k*5) SF ae rfl isAgg228 sizeOf228 (by simp) (lb JK hxt) rfl) rfl ?_;refine ya (aB zeroValue228 rfl) rfl ?_;rintro v L' ⟨b4,rfl,rfl⟩;refine bA (aP (vs':=x.cells) rfl rfl (pG x) sizeOf228 bc rfl (by decide) rfl) ?_;refine gy 4 ?_;refine y (ak rfl isAgg228 sizeOf228 aL (by rfl)) rfl ?_;refine aA (aav (V:={V with out:=o}) (n:=my n k) (x:=x) ?aqD ?akl ?ars) rfl call160 aZ rfl ?_
  case aqD=>rw[Rm];exact hi
  case akl=>exact cq
  case ars=>omega
  rintro v L' ⟨o23,rfl,J7,rfl⟩;rw[IE hx]at J7 ⊢;refine gy 5 ?_;rw[show IntKind.i64.wrap ((k:Int)+1)=((k+1:Nat):Int)by rw[wr (by omega) (by omega)];rfl];refine gy 3 ?_;exact cI ((k+1,o23)) (⟨by omega,J7⟩) (by dsimp only;omega) _ _ aq ae
 have TY:k=mn:=by omega
 refine gc 4 ?_;refine aN results125 (L1:=[bB F _ _,aD o _ _,eu _ _ _,iZ _ _]++R) ae ?_;rw[hpe,←TY];exact⟨_,⟨o,rfl,cq,rfl⟩,rfl⟩
theorem ta [Env]{R:List ax}{F:NF}{V:NV}{n:aa}{mk:Int}(hc:0≤n.change∧n.change≤1000000)(ho:nE V n)(hl:n.out.length≤1000000):
   bC Tryz.prog 127 [ptr F.p,i64 mk] [bB F V n,gH V n] R (Dn F V (n.changes mk)):=by
 obtain⟨n1,mo⟩: ∃z,(if n.want≠mk then{n with change:=n.change+1,want:=mk}else n)=z:=⟨_,rfl⟩;have AK:n.changes mk=n1.send 2 ⟨3,n1.ah,mk,n1.change,-1,-1,0,0,0,0,0,[],[]⟩:=by unfold aa.changes;rw[mo];rfl
 have hou:n1.out=n.out:=by rw[←mo];split<;>rfl
 have ho1:nE V n1:=by unfold nE;rw[hou];exact ho
 refine ag func127 ntmps127 rfl rfl ?_;unfold bB gH;refine bq ?_;intro K1 OM
 have Ll: ∀x:Unit,(True)→Sk 35 K1 ([(0,ptr F.p),(1,i64 mk)]) ([bB F V n1,gH V n1]++R):=by
  rintro x afF;refine OM _ _ ?_;refine aS 11 (od [] 11 0) (_) Tryz.mixed (by kernel_rfl) .refl ?_;unfold bB;refine gh 10 ?_;refine hr rfl (cA (aM.cells ⟨3,n1.ah,mk,n1.change,-1,-1,0,0,0,0,0,[],[]⟩)) rfl ?_;refine gh 1 ?_;refine aA (nw (V:=V) (n:=n1) (m:=⟨3,n1.ah,mk,n1.change,-1,-1,0,0,0,0,0,[],[]⟩) ?akn ?aru) rfl call67 aZ rfl ?_
  case akn=>exact ho1
  case aru=>rw[hou];exact hl
  rintro v L' ⟨o34,rfl,ajw,rfl⟩;refine gy 1 ?_;refine aN results127 (L1:=[bB F _ _,aD o34 _ _]++R) ae ?_;rw[AK];exact⟨_,⟨o34,rfl,ajw,rfl⟩,rfl⟩
 clear OM;refine gc 10 ?_;refine cc rfl (fun De=>?_) (fun De=>?_)
 ·rw[if_pos (by simpa using De)]at mo;subst mo;refine gc 6 ?_;rw[wr (by omega) (by omega)];refine gy 2 ?_;refine bA (an rfl rfl (by rfl) sizeOf2 bc rfl rfl) ?_;refine gy 8 ?_;refine bA (an rfl rfl (by rfl) sizeOf3 bc rfl rfl) ?_;refine gy 2 ?_;exact aV aq ae (Ll () trivial)
 rw[if_neg (by simpa using De)]at mo;subst mo;refine gc 2 ?_;exact aV aq ae (Ll () trivial)
def NV.bare(V:NV)(p:Nat):NV:={V with sw:=none,ps:=p,si:=none}
def adD(F:NF)(V:NV)(n':aa)(v:Value)(L':List ax):Prop:=
 ∃p,v= .tuple #[]∧L'=[bB F (V.bare p) n',eu p none (dC.new 0),iZ none (dC.new 0),aD none 177 []]
theorem UQ [Env]{R:List ax}{F:NF}{V:NV}{n:aa}:bC Tryz.prog 42 [ptr F.p] [bB F V n] R (adD F V n.forget):=by
 refine ag func42 ntmps42 rfl rfl ?_;unfold bB;refine gc 2 ?_;refine aA (A3) rfl call74 aZ rfl ?_;rintro v L' ⟨p3,rfl,rfl⟩;refine y (bU rfl) rfl ?_;refine gy 2 ?_;refine bA (aP (us:=[i64 0,i64 0,i64 0,i64 0,fp,ptr p3]) (vs':=[i64 n.id,i64 n.serial,i64 n.lease,i64 n.patience,i64 n.blocks,ptr F.pf,ptr F.pl,ptr F.A.p,i64 n.left,.bool n.down,.bool n.lost,i64 n.ah,i64 n.mask,i64 n.clock,i64 n.born,i64 n.change,i64 n.done.a,i64 n.done.b,i64 n.done.c,i64 n.done.d,i64 n.fj.a,i64 n.fj.b,i64 n.fj.c,i64 n.fj.d,i64 n.cT,aG V.out n.out.length,i64 0,i64 0,i64 0,i64 0,fp,ptr p3]) rfl rfl (by simp[Value.oneCell']) sizeOf104 bc rfl (by simp) rfl) ?_;refine gy 1 ?_;refine aN results42 (L1:=[sc F.p _ 106,eu _ _ _,iZ _ _,aD none 177 []]++R) ae ?_;exact⟨_,⟨p3,rfl,rfl⟩,rfl⟩
theorem ql [Env]{R:List ax}{F:NF}{V:NV}{n:aa}:bC Tryz.prog 106 [ptr F.p] [bB F V n] R (adD F V n.du):=by
 refine ag func106 ntmps106 rfl rfl ?_;refine gc 2 ?_;refine aA (UQ) rfl call42 aZ rfl ?_;rintro v L' ⟨p3,rfl,rfl⟩;unfold bB;refine gy 6 ?_;refine bK (WV (V:=V.bare p3) (n:=n.forget)) call161 ?_;refine gy 1 ?_;refine aN results106 (L1:=[bB F _ _,eu _ _ _,iZ _ _,aD none 177 []]++R) ae ?_;exact⟨_,⟨p3,rfl,rfl⟩,rfl⟩
end W
end Go.Proofs