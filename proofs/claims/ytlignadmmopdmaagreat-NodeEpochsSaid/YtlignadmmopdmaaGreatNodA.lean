/- A part of the proof. -/
import Derived.Test.YtlignadmmopdmaaGreatGL
import Derived.Test.YtlignadmmopdmaaGreatGG
import Derived.Test.YtlignadmmopdmaaGreatGE
import Derived.Test.YtlignadmmopdmaaGreatGR
set_option linter.unusedVariables false
set_option linter.unusedSimpArgs false
set_option linter.constructorNameAsVariable false
namespace Go.Sl
theorem VE(bs:Bytes)(k:Nat):(⟨bs.toArray⟩:ByteArray)[k]? =bs[k]? :=by
 by_cases h:k<bs.length
 ·have h2:k<(⟨bs.toArray⟩:ByteArray).size:=by simpa[ByteArray.size]using h
  rw[getElem?_pos (⟨bs.toArray⟩:ByteArray) k h2,List.getElem?_eq_getElem h];rfl
 ·have h2: ¬k<(⟨bs.toArray⟩:ByteArray).size:=by simpa[ByteArray.size]using h
  rw[getElem?_neg (⟨bs.toArray⟩:ByteArray) k h2,List.getElem?_eq_none (by omega)]
section
variable {P : Program} {n : Nat} {l : List (Nat × Value)} {L : List ax} {d : Option Tmp} {ty : TypeId} {pos : String} {af : Array Edge} {g : Option (Nat × Bool)}
theorem G2 [Env]{t:TypeId}{x y:Operand}{k:IntKind}{i:Int}{bs:Bytes}{u:UInt8}(hx:ev l x=some (.string ⟨bs.toArray⟩))(hy:ev l y=some (.int k i))
  (hu:P.underlying t=some .string) (h0:0≤i) (h1:bs[i.toNat]? =some u):Ev P n ⟨d,.index t x y,ty,pos,af,g⟩ l L (.int .u8 u.toNat):=
 Yf hx hy hu h0 (by rw[VE];exact h1)
end
def u64(n:Nat):Value:= .int .u64 n
def vG:Bytes→Nat
 | []=>0
 |x::r=>x.toNat+256*vG r
def H0:Nat→Nat→Bytes
 |0,_=>[]
 |k+1,b=>UInt8.ofNat (b % 256)::H0 k (b / 256)
def jI(n:Nat):Nat:=(n+7) / 8
def iC(n b:Nat):Bytes:=UInt8.ofNat n::H0 (jI n) b
def JT:Bytes→Option (Nat × Nat)
 | []=>none
 |x::r=>if 64<x.toNat then none else if r.length≠jI x.toNat then none else if x.toNat<64∧vG r / 2^x.toNat≠0 then none else some (x.toNat,vG r)
theorem JS: ∀(k b:Nat),(H0 k b).length=k
 |0,_=>rfl
 |k+1,b=>by unfold H0;rw[List.length_cons,JS]
theorem Cw: ∀(r:Bytes),vG r<256^r.length
 | []=>by decide
 |x::r=>by
  have h:=Cw r;have hx:=x.toNat_lt;unfold vG;rw[List.length_cons,Nat.pow_succ];generalize 256^r.length=z at*;omega
theorem Rb(k:Nat):256^k=2^(8*k):=by rw[show(256:Nat)=2^8 by decide,←Nat.pow_mul]
theorem PF{t:Bytes}{n b:Nat}(h:JT t=some (n,b)):n≤64∧b<2^n:=by
 cases t with
 |nil=>cases h
 |cons x r=>
  replace h:(if 64<x.toNat then none else if r.length≠jI x.toNat then none else if x.toNat<64∧vG r / 2^x.toNat≠0 then none else some (x.toNat,vG r))=some (n,b):=h
  by_cases h1:64<x.toNat
  ·rw[if_pos h1]at h;cases h
  ·rw[if_neg h1]at h
   by_cases h2:r.length≠jI x.toNat
   ·rw[if_pos h2]at h;cases h
   ·rw[if_neg h2]at h
    by_cases h3:x.toNat<64∧vG r / 2^x.toNat≠0
    ·rw[if_pos h3]at h;cases h
    ·rw[if_neg h3]at h;simp only[Option.some.injEq,Prod.mk.injEq]at h;obtain⟨rfl,rfl⟩:=h;refine⟨by omega,?_⟩
     by_cases hx:x.toNat<64
     ·have h4:vG r / 2^x.toNat=0:=by
       refine Decidable.byContradiction fun h5=>h3 ⟨hx,h5⟩
      rcases Nat.div_eq_zero_iff.1 h4 with h5|h5
      ·have:0<2^x.toNat:=Nat.two_pow_pos _;omega
      ·exact h5
     ·have Lg:x.toNat=64:=by omega
      have:=Cw r
      have hl:r.length=8:=by
       have:r.length=jI x.toNat:=by simpa using h2
       rw[this,Lg];rfl
      rw[hl]at this;rw[Lg];exact this
theorem Bp(n b:Nat):(iC n b).length=1+jI n:=by unfold iC;rw[List.length_cons,JS];omega
theorem PD{r:Bytes}{k:Nat}{x:UInt8}(h:r[k]? =some x):vG (r.take (k+1))=vG (r.take k)+x.toNat*2^(8*k):=by
 induction r generalizing k with
 |nil=>simp at h
 |cons y r ih=>
  cases k with
  |zero=>simp at h;subst h;simp[vG]
  |succ k=>
   simp only[List.take_succ_cons,vG];rw[ih (by simpa using h),show 8*(k+1)=8*k+8 by omega,Nat.pow_add,show(2:Nat)^8=256 by decide,Nat.mul_add,←Nat.add_assoc];congr 1;rw[Nat.mul_left_comm,Nat.mul_comm 256]
theorem vH(r:Bytes)(k:Nat):vG (r.take k)<2^(8*k):=by
 have:=Cw (r.take k);rw[Rb]at this;exact Nat.lt_of_lt_of_le this (Nat.pow_le_pow_right (by omega) (by simp;omega))
theorem EV: ∀(k b:Nat),H0 (k+1) b=H0 k b++[UInt8.ofNat (b / 2^(8*k) % 256)]
 |0,b=>by simp[H0]
 |k+1,b=>by
  have ih:=EV k (b / 256);show UInt8.ofNat (b % 256)::H0 (k+1) (b / 256)=_;rw[ih];show _=(UInt8.ofNat (b % 256)::H0 k (b / 256))++_;rw[List.cons_append,Nat.div_div_eq_div_mul,show 256*2^(8*k)=2^(8*(k+1))by rw[show 8*(k+1)=8+8*k by omega,Nat.pow_add]]
def cN(b k:Nat):List Int:=((List.range k).filter b.testBit).map Int.ofNat
theorem o8(b k:Nat):cN b (k+1)=if b.testBit k=true then cN b k++[(k:Int)]else cN b k:=by
 unfold cN;rw[List.range_succ,List.filter_append];cases h:b.testBit k<;>simp[h]
theorem xi(b:Nat): ∀k,(cN b k).length≤k
 |0=>by simp[cN]
 |k+1=>by
  have:=xi b k;rw[o8];split
  · simp;omega
  · omega
def zF(n:Nat)(i:Int):Bool:=decide (0≤i)&&decide (i<n)
theorem mq{n:Nat}{i:Int}:zF n i=true↔0≤i∧i<n:=by unfold zF;simp
def sN(n b:Nat)(i:Int):Bool:=zF n i&&b.testBit i.toNat
def CL(b:Nat)(i:Int):Nat:=b|||2^i.toNat
theorem FT(b i:Nat):b.testBit i=decide (b / 2^i % 2=1):=by
 rw[Nat.testBit_eq_decide_div_mod_eq]
theorem Kf{n b:Nat}{i:Int}(hb:b<2^n)(hi:zF n i=true):CL b i<2^n:=by
 obtain⟨h0,h1⟩:=mq.1 hi;exact Nat.or_lt_two_pow hb (Nat.pow_lt_pow_right (by omega) (by omega))
theorem yN{n:Nat}(h:n≤64):2^n≤18446744073709551616:=by
 have:2^n≤2^64:=Nat.pow_le_pow_right (by omega) h;exact this
theorem asU{i:Nat}(h:i<64):IntKind.u64.wrap ((1:Int)*2^(min (i:Int).toNat IntKind.u64.bits))=((2^i:Nat):Int):=by
 have e:min (i:Int).toNat IntKind.u64.bits=i:=by simp[IntKind.bits];omega
 have h2:2^i<18446744073709551616:=by
  have:2^i<2^64:=Nat.pow_lt_pow_right (by omega) h;exact this
 rw[e,iN,Int.one_mul];have e2:((2:Int)^i)=((2^i:Nat):Int):=by simp
 rw[e2];generalize 2^i=z at*;omega
theorem CZ{b i:Nat}(h:i≤64):((b:Nat):Int).fdiv (2^(min (i:Int).toNat IntKind.u64.bits))=((b / 2^i:Nat):Int):=by
 have e:min (i:Int).toNat IntKind.u64.bits=i:=by simp[IntKind.bits];omega
 rw[e,show((2:Int)^i)=((2^i:Nat):Int)by simp];exact m9
theorem GU{n b:Nat}(hb:b<2^n):(cN b n).length=0↔b=0:=by
 constructor
 ·intro h;have hn:cN b n=[]:=List.length_eq_zero_iff.1 h;unfold cN at hn;rw[List.map_eq_nil_iff]at hn;apply Nat.eq_of_testBit_eq;intro j;rw[Nat.zero_testBit]
  by_cases hj:j<n
  ·cases ht:b.testBit j with
   |false=>rfl
   |true=>
    have:j∈(List.range n).filter b.testBit:=List.mem_filter.2 ⟨List.mem_range.2 hj,ht⟩;rw[hn]at this;cases this
  ·exact Nat.testBit_lt_two_pow (Nat.lt_of_lt_of_le hb (Nat.pow_le_pow_right (by omega) (by omega)))
 ·rintro rfl
  have:cN 0 n=[]:=by
   unfold cN;rw[List.map_eq_nil_iff,List.filter_eq_nil_iff];intro a _;simp
  rw[this];rfl
def dJ(t:Bytes):Nat × Nat × Int:=match JT t with
 |some q=>(q.1,q.2,0)
 |none=>(0,0,4)
theorem ob(x:UInt8)(r:Bytes):JT (x::r)=if 64<x.toNat then none else if r.length≠jI x.toNat then none else if x.toNat<64∧vG r / 2^x.toNat≠0 then none else some (x.toNat,vG r):=rfl
theorem LQ{x:UInt8}{r:Bytes}(h:64<x.toNat):dJ (x::r)=(0,0,4):=by unfold dJ;rw[ob,if_pos h]
theorem LS{x:UInt8}{r:Bytes}(h: ¬64<x.toNat)(h2:r.length≠jI x.toNat):dJ (x::r)=(0,0,4):=by unfold dJ;rw[ob,if_neg h,if_pos h2]
theorem LU{x:UInt8}{r:Bytes}(h: ¬64<x.toNat)(h2:r.length=jI x.toNat)(h3:x.toNat<64∧vG r / 2^x.toNat≠0):dJ (x::r)=(0,0,4):=by unfold dJ;rw[ob,if_neg h,if_neg (by simpa using h2),if_pos h3]
theorem EW{x:UInt8}{r:Bytes}(h: ¬64<x.toNat)(h2:r.length=jI x.toNat)(h3: ¬(x.toNat<64∧vG r / 2^x.toNat≠0)):dJ (x::r)=(x.toNat,vG r,0):=by unfold dJ;rw[ob,if_neg h,if_neg (by simpa using h2),if_neg h3]
theorem yp(t:Bytes):(dJ t).1≤64∧(dJ t).2.1<2^(dJ t).1:=by
 unfold dJ;cases h:JT t with
 |none=>exact⟨by decide,by decide⟩
 |some q=>exact PF h
end Go.Sl
namespace Go.Sl
def ef(n:Nat):Nat:=(n+3) / 4
structure eX where
 c:a8
 n:Nat
 bits:Nat
def CQ(n:Nat)(t:Bytes):Nat:=if(dJ t).2.2=0∧(dJ t).1=n then(dJ t).2.1 else 0
def nS(D:az)(a b n:Int):Int:=if n<1∨32<n then 1 else cg D a b
def mJ(D:az)(a b:Int)(n:Nat):eX:=⟨aF D a b,n,CQ (ef n) (aF D a b).text⟩
def eX.set(L:eX)(D:az)(b:Nat):Int × eX × az:=
 ((L.c.put D (iC (ef L.n) b)).1,{L with c:=(L.c.put D (iC (ef L.n) b)).2.1,bits:=if(L.c.put D (iC (ef L.n) b)).1=0 then b else L.bits},(L.c.put D (iC (ef L.n) b)).2.2)
def eX.has(L:eX)(i:Int):Bool:=zF L.n i&&sN (ef L.n) L.bits (i / 4)
def eX.mark(L:eX)(D:az)(i:Int):Int × eX × az:=
 if zF L.n i=false then(2,L,D)else if L.has i=true then(0,L,D)else L.set D (CL L.bits (i / 4))
def eX.clear(L:eX)(D:az):Int × eX × az:=if L.bits=0 then(0,L,D)else L.set D 0
structure eX.ok(L:eX)(D:az):Prop where
 c:L.c.ok D.l.length
 n:1≤L.n∧L.n≤32
 bits:L.bits<2^ef L.n
 d:D.ok
theorem qy{n:Nat}(h:1≤n∧n≤32):1≤ef n∧ef n≤8:=by unfold ef;omega
theorem Mr(n:Nat)(t:Bytes):CQ n t<2^n:=by
 have h:=yp t;unfold CQ;split
 · rename_i e;rw[←e.2];exact h.2
 · exact Nat.two_pow_pos _
theorem JJ{n:Nat}{i:Int}(h:zF n i=true):zF (ef n) (i / 4)=true:=by
 obtain⟨h0,h1⟩:=mq.1 h;exact mq.2 ⟨by omega,by unfold ef;omega⟩
theorem Th{D:az}{a b:Int}{n:Nat}(hD:D.ok)(hn:1≤n∧n≤32)(h:cg D a b=0):(mJ D a b n).ok D:=⟨(eW h).1,hn,Mr _ _,hD⟩
theorem FV{n b:Nat}(h:1≤n∧n≤32):(iC (ef n) b).length≤100:=by rw[Bp];have:=qy h;unfold jI;omega
def dQ(L:eX)(k:Nat):List Int:=((List.range k).filter fun i:Nat=>L.has i).map Int.ofNat
def eX.GK(L:eX):List Int:=dQ L L.n
theorem pe(L:eX)(k:Nat):dQ L (k+1)=if L.has k=true then dQ L k++[(k:Int)]else dQ L k:=by
 unfold dQ;rw[List.range_succ,List.filter_append];cases h:L.has k<;>simp[h]
theorem uo(L:eX): ∀k,(dQ L k).length≤k
 |0=>by simp[dQ]
 |k+1=>by
  have:=uo L k;rw[pe];split
  · simp;omega
  · omega
theorem RZ{D D':az}{N:Nat}{a b:Int}(h:Up D N)(h':Up D' N)(he:cg D a b=0):cg D' a b=0:=by
 unfold cg at he ⊢;rw[h.len]at he;rw[h'.len]
 by_cases c:a=b∨min a b<0∨(N:Int)≤max a b
 · rw[if_pos c]at he;cases he
 · rw[if_neg c,if_neg (by rw[h'.live];decide)]
end Go.Sl
namespace Go.Sl
def H5(m:aM):RecM:=⟨m.kind,[m.ah,m.seq,m.n,m.block,m.eU,m.e,m.t0,m.t1,m.t2,m.t3],[m.data,m.row]⟩
def dF(m:aM):Bytes:=if m.may=true then bL (H5 m)else []
def PL(r:RecM):aM:=⟨r.kind,r.aH.getD 0 0,r.aH.getD 1 0,r.aH.getD 2 0,r.aH.getD 3 0,r.aH.getD 4 0,r.aH.getD 5 0,r.aH.getD 6 0,r.aH.getD 7 0,r.aH.getD 8 0,r.aH.getD 9 0,r.texts.getD 0 [],r.texts.getD 1 []⟩
def A2(s:Bytes):Bool:=decide ((bX s).2=0)&&decide ((bX s).1.aH.length=10)&&decide ((bX s).1.texts.length=2)&&(PL (bX s).1).may
def bF(s:Bytes):aM × Int:=if A2 s=true then(PL (bX s).1,0)else(.zero,4)
structure gI where
 jr:Int
 to:Int
 body:Bytes
 deriving DecidableEq
def gI.cells(x:gI):List Value:=[iV x.jr,iV x.to,sV x.body]
def fG(l:List gI):List Value:=(l.map gI.cells).flatten
structure dY where
 seq:Int
 bE:Int
 data:Bytes
 cl:Int
 n:Int
 deriving DecidableEq
def dY.cells(x:dY):List Value:=[iV x.seq,iV x.bE,sV x.data,iV x.cl,iV x.n]
def kS(l:List dY):List Value:=(l.map dY.cells).flatten
structure ar where
 cl:Int
 n:Int
 op:Int
 bE:Int
 seq:Int
 stored:Bool
 load:Int
 deriving DecidableEq
def ar.cells(x:ar):List Value:=[iV x.cl,iV x.n,iV x.op,iV x.bE,iV x.seq,.bool x.stored,iV x.load]
def a6(l:List ar):List Value:=(l.map ar.cells).flatten
structure dC where
 l:List dY
 dV:Int
 deriving DecidableEq
def dC.new(b:Int):dC:=⟨[],min (max b 0) 4611686018427387904⟩
def dC.last(S:dC):Int:=S.dV+S.l.length
def dC.add(S:dC)(x:dY):(Int × Int) × dC:=if S.last=4611686018427387904 then((0,23),S)else((S.last+1,0),{S with l:=S.l++[{x with seq:=S.last+1}]})
def dC.wb(S:dC)(q:Int):Bool × dC:=if q≤S.dV∨S.last<q then(false,S)else(true,⟨S.l.drop (q-S.dV).toNat,q⟩)
def pN(le ls e s:Int):Int:=
 if le<e∧s<1 then 0 else
 if e<le then 0 else if s≤(if le<e then 0 else ls)then 2 else if s- 1=(if le<e then 0 else ls)then 1 else 0
structure aa where
 id:Int
 serial:Int
 lease:Int
 patience:Int
 blocks:Int
 f:a8
 dr:eX
 c:aQ
 left:Int
 down:Bool
 lost:Bool
 ah:Int
 mask:Int
 clock:Int
 born:Int
 change:Int
 done:T4
 fj:T4
 cT:Int
 out:List gI
 role:Int
 want:Int
 cm:Int
 quiet:Int
 waits:List ar
 s:dC
 d:az
def yG:Bytes:=[0,0,0,0,0,0,0,0]
def cR(e:Int):Bytes:=(kQ ⟨50,[e],[]⟩).1
namespace aa
def own(n:aa):Int:=n.id+1
def peer(n:aa):Int:=1-n.id
def alone(n:aa):Bool:= !decide (n.mask=3)
def jE(n:aa):Bool:= !n.alone||decide (n.cm=2)
def andThen(r:Bool × aa)(f:aa→aa):aa:=if r.1=true then f r.2 else r.2
def gz(r:Bool × aa)(f:aa→Bool × aa):Bool × aa:=if r.1=true then f r.2 else r
def err(n:aa)(e:Int):aa:={n with down:=n.down|| !decide (e=0)}
def forget(n:aa):aa:={n with role:=0,want:=0,cm:=0,quiet:=0,waits:=[],s:=dC.new 0}
def du(n:aa):aa:={n.forget with left:=0}
def send(n:aa)(to:Int)(m:aM):aa:={n with out:=n.out++[⟨n.id,to,dF m⟩]}
def table(n:aa):T4:=⟨fH n.c.k 0,fH n.c.k 1,fH n.c.k 2,fH n.c.k 3⟩
def bf(n:aa)(r:Int × aQ × az):aa:={n with c:=r.2.1,d:=r.2.2}
def iG(n:aa)(r:Int × eX × az):aa:={n with dr:=r.2.1,d:=r.2.2}
def k8(n:aa)(r:Int × a8 × az):aa:={n with f:=r.2.1,d:=r.2.2}
def iO(n:aa)(r:Int × aQ × az):Bool × aa:=(decide (r.1=0),(n.bf r).err r.1)
def BM(n:aa)(r:Int × eX × az):Bool × aa:=(decide (r.1=0),(n.iG r).err r.1)
def To(n:aa)(r:Int × a8 × az):Bool × aa:=(decide (r.1=0),(n.k8 r).err r.1)
def sync(n:aa):Bool × aa:=n.iO (n.c.sync n.d)
def eC(n:aa)(e:Int):Bool × aa:=
 if e≤n.ah then(true,n)else gz (n.du.To (n.f.put n.d (cR e))) fun n=>(true,{n with ah:=e})
def iF(n:aa)(e:Int):Int × aa:=
 let r:=n.f.put n.d (cR e)
 if r.1≠0 then(r.1,n.k8 r)else
 if 16384≤r.2.1.gen then(23,n.k8 r)else
 (0,{n.k8 r with ah:=e,born:=r.2.1.gen+16384*(n.serial.tmod 16384)})
def ia{α:Type}(f:aa→α→Bool × aa):List α→aa→Bool × aa
 | [],n=>(true,n)
 |x::l,n=>if(f n x).1=false then(false,(f n x).2)else ia f l (f n x).2
def lT:aM:=⟨0,0,0,0,-1,-1,0,0,0,0,0,[],[]⟩
def load(n:aa)(b num:Int):aa:=n.send 3 {lT with kind:=12,ah:=n.ah,n:=num,block:=b}
def store(n:aa)(x:bd)(cl num:Int):aa:=n.send 3 ⟨10,n.ah,x.vs,num,x.bE,cl,0,n.done.a,n.done.b,n.done.c,n.done.d,x.data,[]⟩
def put(n:aa)(x:dY):aa:=n.send n.peer ⟨5,n.ah,x.seq,x.n,x.bE,x.cl,0,n.done.a,n.done.b,n.done.c,n.done.d,x.data,[]⟩
def kW(n:aa):aa:=(n.s.l.take 8).foldl put n
def changes(n:aa)(mk:Int):aa:=
 let n1:=if n.want≠mk then{n with change:=n.change+1,want:=mk}else n
 n1.send 2 {lT with kind:=3,ah:=n1.ah,seq:=mk,n:=n1.change}
def Im(n:aa):Bool × aa:=aa.sync {n with fj:=n.done}
def td(n:aa):aa:={n with s:=(n.s.add ⟨0,-1,[],-1,0⟩).2}
def note(n:aa):Bool × aa:=
 if(n.s.add ⟨0,-1,[],-1,0⟩).1.2≠0 then(true,n)else
 gz (n.td.iO (n.c.note n.d n.ah (n.s.add ⟨0,-1,[],-1,0⟩).1.1 n.done.l)) Im
def bY(l:List ar)(b:Int):Option Nat:=l.findIdx? fun w=>decide (w.op=2)&&decide (w.bE=b)
def ew(n:aa)(b:Int):Option ar:=n.waits.find? fun w=>decide (w.op=2)&&decide (w.bE=b)
def mc(n:aa)(b:Int)(f:ar→ar):aa:=match bY n.waits b with
 |some i=>{n with waits:=n.waits.modify i f}
 |none=>n
def jw(x:bd):dY:=⟨0,x.bE,x.data,x.cl,x.n⟩
def nM(n:aa)(x:bd):aa:={n with s:=(n.s.add (jw x)).2}
def eS(n:aa)(x:bd):Bool × aa:=
 if x.bZ=false then(true,n)else
 if(n.s.add (jw x)).1.2≠0 then(false,(n.nM x).err (n.s.add (jw x)).1.2)else
 gz ((n.nM x).iO (n.c.put n.d {x with ve:=n.ah,vs:=(n.s.add (jw x)).1.1})) fun n'=>(true,n'.mc x.bE fun w=>{w with seq:=(n.s.add (jw x)).1.1,stored:=false})
def again(n:aa):Bool × aa:=ia eS n.c.all n
def more(n:aa)(t:T4):Bool:=decide (fH n.c.k 0<t.a)||decide (fH n.c.k 1<t.b)||decide (fH n.c.k 2<t.c)||decide (fH n.c.k 3<t.d)
def less(n:aa)(t:T4):Bool:=decide (t.a<fH n.c.k 0)||decide (t.b<fH n.c.k 1)||decide (t.c<fH n.c.k 2)||decide (t.d<fH n.c.k 3)
def gE(n:aa)(x:bd):Bool × aa:=if x.bZ=false then(true,n)else n.BM (n.dr.mark n.d x.bE)
def marks(n:aa):Bool × aa:=ia gE n.c.all n
def wD(n:aa)(w:ar):Bool:=n.alone&& !w.stored&&(!decide (n.cm=2)||decide (w.seq≤n.s.dV))
def lB(n:aa)(w:ar):Bool:=if n.alone=false then decide (w.seq≤n.s.dV)else if n.cm=2 then decide (w.seq≤n.s.dV)&&w.stored else w.stored
def answer(n:aa)(w:ar)(e:Int)(data:Bytes):aa:=n.send (4+w.cl) ⟨15,n.ah,0,w.n,w.bE,-1,e,0,0,0,0,data,[]⟩
def given(n:aa)(w:ar)(data:Bytes):aa:=if 0<n.left then n.answer w 0 data else n.answer w 21 []
def fT(n:aa)(q:Int):Bool:= !(n.waits.any fun w=>decide (w.op=2)&&decide (w.seq≤q))&& !(n.c.all.any fun x=>x.bZ&&(decide (x.ve<n.ah)||decide (x.vs≤q)))
def fP(n:aa)(a:List ar × aa)(w:ar):List ar × aa:=
 if w.op=1∧w.load=0∧n.ew w.bE=none then
  match bM a.2.c.en w.bE with
  |some x=>(a.1,a.2.given w x.data)
  |none=>(a.1++[{w with load:=a.2.cT+1}],{a.2 with cT:=a.2.cT+1}.load w.bE (a.2.cT+1))
 else if w.op=4∧n.fT w.seq=true then(a.1,a.2.answer w 0 [])
 else(a.1++[w],a.2)
def reads(n:aa):aa:={(n.waits.foldl n.fP ([],n)).2 with waits:=(n.waits.foldl n.fP ([],n)).1}
def leads(n:aa):aa:={n with role:=3,done:=n.table}
def hY(p:aa→ar→Bool)(f:aa→ar→aa):List ar→aa→List ar × aa
 | [],n=>([],n)
 |w::l,n=>if p n w=true then hY p f l (f n w)else(w::(hY p f l n).1,(hY p f l n).2)
def fW(n:aa)(w:ar):Bool:=decide (w.op=2)&&n.lB w
def je(n:aa)(w:ar):aa:={n with done:=n.done.set w.cl (max (n.done.get w.cl) w.n)}.answer w 0 []
def fv(n:aa):aa:={(hY fW je n.waits n).2 with waits:=(hY fW je n.waits n).1}
def eo(n:aa):aa:=if n.role=2∧n.s.l=[]then n.leads else n
def eP(n:aa):aa:=
 if¬n.cm=2∨ ¬n.want=0∨ ¬n.s.l=[]∨(n.waits.any fun w=>decide (w.op=2))=true then n else
 if n.fj=n.done then n.changes 3 else andThen n.note kW
def settle(n:aa):aa:=n.fv.eo.reads.eP
def gO(n:aa)(t:T4):Bool × aa:=if n.more t=true then n.iO (n.c.note n.d 0 0 t.l)else(true,n)
def cF(n:aa):Bool × aa:=if n.mask=n.own then n.marks else(true,n)
def qK(n:aa):aa:={n with s:=dC.new 0}
def bP(n:aa):aa:={n with done:=n.table}
def Mq(n:aa):aa:=aa.kW {n with role:=2}
def mf(n:aa):aa:={n with s:=dC.new n.s.last,role:=3}
def dX(n:aa):aa:=if n.alone=false then andThen n.note Mq else andThen n.sync mf
def recover(n:aa)(t:T4):aa:=andThen (n.gO t) fun n=>andThen n.cF fun n=>andThen n.qK.again fun n=>n.bP.dX
def jl(n:aa):aa:={n with cm:=2,quiet:=0}
def ready(n:aa):aa:=andThen n.jl.again fun n=>andThen n.note kW
def mR(n:aa):aa:={n with cm:=0,s:=dC.new n.s.last}
def ze(n:aa):aa:=if n.alone=false∨ ¬n.want=0 then n.changes n.own else n.mR.settle
def df(n:aa):aa:={n with quiet:=0}
def k6(n:aa):aa:=n.df.ze
def dt(a:Int × aa)(b:Nat):Int × aa:=match bM a.2.c.en b with
 |none=>a
 |some x=>match a.2.ew b with
  |some w=>(a.1,if a.2.wD w=true then a.2.store x w.cl w.n else a.2)
  |none=>if x.bZ=true∧a.1<4 then(a.1+1,a.2.store x (-1) 0)else a
def iw(n:aa):aa:=((List.range n.blocks.toNat).foldl dt (0,n)).2
def k7(n:aa)(w:ar):aa:=if w.op=1∧0<w.load then n.load w.bE w.load else n
def iD(n:aa):aa:=if n.jE=true∧ ¬n.s.l=[]then aa.kW {n with quiet:=n.quiet+1}else n.df
def jv(n:aa):aa:=if n.patience<n.quiet then n.k6 else if¬n.want=0 then n.changes n.want else n
def uj(n:aa):aa:={n with cm:=1}
def xm(n:aa):aM:=⟨7,n.ah,n.s.last,0,-1,-1,0,n.done.a,n.done.b,n.done.c,n.done.d,[],iC (ef n.dr.n) n.dr.bits⟩
def mD(n:aa):aa:=if n.alone=true∧ ¬n.cm=2 then n.uj.send n.peer n.xm else n
def zg(n:aa):aa:=n.waits.foldl k7 n
def tQ(n:aa):aa:=if¬n.role=3 then n else n.mD.iw.zg
def rS(n:aa):aa:=n.iD.jv.tQ
def clear(n:aa):aa:={n with out:=[]}
def k5(n:aa):aa:={n with clock:=n.clock+1,left:=max (n.left- 1) 0}
def sj(n:aa):aM:={lT with kind:=1,ah:=n.ah,seq:=if n.role=0 then 1 else 0,n:=n.born*4294967296+n.clock}
def tP(n:aa):aa:=if n.role=1 then n.load (-1) 0 else if 2≤n.role then n.rS else n
def tO(n:aa):aa:=if n.lost=true then n.send 2 {lT with kind:=4,n:=n.serial}else(n.send 2 n.sj).tP
def tick(n:aa):aa:=if n.down=true then n.clear else n.clear.k5.tO
def eg(m:aM)(n:aa)(w:ar):Bool:=decide (n.role=3)&&decide (w.op=1)&&decide (0<w.load)&&decide (w.load=m.n)&&decide (w.bE=m.block)
def kU(n:aa)(m:aM):aa:=
 {(hY (eg m) (fun n w=>n.given w m.data) n.waits n).2 with waits:=(hY (eg m) (fun n w=>n.given w m.data) n.waits n).1}
def eG(n:aa)(m:aM):aa:=match n.ew m.block with
 |some w=>if w.seq=m.seq then n.mc m.block fun w=>{w with stored:=true}else n
 |none=>n
def gC(n:aa)(m:aM):aa:=if n.jE=true then n.send n.peer {lT with kind:=9,ah:=m.ah,seq:=m.seq,block:=m.block}else n
def cX(n:aa)(m:aM):aa:=match bM n.c.en m.block with
 |none=>n
 |some x=>if n.down=true∨(n.ew m.block).isSome=true∨ ¬(x.ve=m.ah∧x.vs=m.seq)∨x.bZ=false then n else
  andThen (n.iO (n.c.clean n.d m.block m.ah m.seq)) fun n=>(n.gC m).reads
def stored(n:aa)(m:aM):aa:=(n.eG m).settle.cX m
def wH(m:aM):T4:=⟨m.t0,m.t1,m.t2,m.t3⟩
def cZ(n:aa)(m:aM):aa:=
 if¬m.ah=n.ah∨n.role=0 then n else if m.e=24 then n.du else if¬m.e=0 then n else
 if m.kind=13∧n.role=1∧m.block= -1 then n.recover (wH m)else if m.kind=13 then n.kU m else
 if m.kind=11∧2≤n.role∧0≤m.block then n.stored m else n
def refused(n:aa)(m:aM):Int:=
 if¬n.role=3 then 20 else if¬0<n.left then 21 else if m.seq<1∨4<m.seq then 1 else if¬m.seq=4∧(m.block<0∨n.blocks≤m.block)then 2 else if m.seq=2∧ ¬(m.data.length:Int)=8 then 3 else 0
def jK(n:aa)(w:ar)(x:bd):Bool:=n.alone&&x.bZ&&decide (x.cl=w.cl)&&decide (x.n=w.n)
def gp(n:aa)(w:ar)(x:bd):aa:=if n.wD w=true then n.store x w.cl w.n else n
def g4(n:aa)(w:ar):aa:=match n.c.all.find? (n.jK w)with
 |none=>n.answer w 0 []
 |some x=>if(n.ew x.bE).isSome=true∨16≤n.waits.length then n.answer w 25 []else
  aa.gp {n with waits:=n.waits++[{w with op:=2,bE:=x.bE,seq:=x.vs}]} {w with op:=2,bE:=x.bE,seq:=x.vs} x
def iL(n:aa)(w:ar):Bool × aa:=if n.alone=true then n.BM (n.dr.mark n.d w.bE)else(true,n)
def dL(n:aa)(w:ar)(data:Bytes):bd:=⟨w.bE,n.ah,n.s.last+1,data,true,w.cl,w.n⟩
def zq(n:aa)(w:ar)(it:dY):aa:={n with s:=(n.s.add it).2,waits:=n.waits++[w]}
def adt(n:aa)(q:Int):aa:={n with s:=(n.s.wb q).2}
def jM(n:aa)(it:dY):aa:=if n.jE=true then n.put it else n.adt it.seq
def jo(n:aa)(w:ar)(x:bd):aa:=
 ((n.zq {w with seq:=(n.s.add (jw x)).1.1} (jw x)).jM {jw x with seq:=(n.s.add (jw x)).1.1}).gp {w with seq:=(n.s.add (jw x)).1.1} x
def iM(n:aa)(w:ar)(x:bd):aa:=
 if(n.c.put n.d x).1=12 then(n.bf (n.c.put n.d x)).answer w 12 []else
 andThen (n.iO (n.c.put n.d x)) fun n=>andThen n.sync fun n=>n.jo w x
def write(n:aa)(w:ar)(data:Bytes):aa:=
 if 4611686018427387904≤n.s.last then n.answer w 23 []else andThen (n.iL w) fun n=>n.iM w (n.dL w data)
def gX(n:aa)(w:ar)(m:aM):Option Int:=
 let e:=n.refused m
 if e=0∧(w.op=2∨w.op=3)then
  if m.n<fH n.c.k w.cl then none else if m.n=fH n.c.k w.cl then some (-1)else if(n.ew m.block).isSome=true then some 25 else some 0
 else some e
def mh(jr:Int)(m:aM):ar:=⟨jr- 4,m.n,min m.seq 4,m.block,0,false,0⟩
def l8(n:aa)(w:ar):aa:={n with waits:=n.waits++[w]}
def ki(n:aa)(w:ar)(data:Bytes):aa:=
 if w.op=1 then(n.l8 w).reads else if w.op=4 then(n.l8 {w with seq:=n.s.last}).reads else
 if w.op=3 then n.write {w with op:=2} yG else n.write w data
def kh(n:aa)(w:ar)(e:Int)(data:Bytes):aa:=
 if e=0∧16≤n.waits.length then n.answer w 25 []else if¬e=0 then n.answer w e []else n.ki w data
def called(n:aa)(jr:Int)(m:aM):aa:=
 if¬m.kind=14∨m.n<1∨(n.waits.any fun x=>decide (x.cl=(mh jr m).cl)&&decide (x.n=(mh jr m).n))=true then n else
 match n.gX (mh jr m) m with
 |none=>n
 |some e=>if e= -1 then n.g4 (mh jr m)else n.kh (mh jr m) e m.data
def dz(n:aa)(w:ar):aa:=match bM n.c.en w.bE with
 |none=>n
 |some x=>if w.op=2∧n.wD w=true then n.store x w.cl w.n else n
def fY(n:aa):aa:=n.waits.foldl dz n
def gx(n:aa):aa:=if n.role=2 then n.leads else n
def kM(n:aa):aa:={n with s:=dC.new n.s.last}
def nN(n:aa):aa:=andThen n.marks fun n=>n.kM.gx.fY.settle
def cj(n:aa)(mk:Int):aa:={n with want:=0,cm:=0,quiet:=0,mask:=mk}
def mX(n:aa)(mk:Int):aa:=
 if mk=3 then andThen (n.BM (n.dr.clear n.d)) settle else if mk=n.own then n.nN else n.du
def changed(n:aa)(mk:Int):aa:=(n.cj mk).mX mk
def lS(n:aa)(z:Int):aa:={n with left:=max (max n.left (n.lease-(n.clock-z))) 0}
def vn(n:aa)(mk:Int):aa:=aa.load {n with role:=1,mask:=mk,change:=0} (-1) 0
def gL(n:aa)(m:aM)(z:Int):aa:=
 if z<0∨n.clock<z then n else
 if n.ah<m.ah then andThen (n.eC m.ah) fun n=>(n.vn m.seq).lS z else
 if m.ah<n.ah∨n.role=0 then n else n.lS z
def granted(n:aa)(m:aM):aa:=
 if¬m.e=0∨ ¬m.eU=n.id then(if¬m.eU=n.id∧n.ah≤m.ah∧0<n.role then n.du else n)else n.gL m (m.n-n.born*4294967296)
def pB(n:aa)(b:Nat):Bool × aa:=n.BM (n.dr.mark n.d b)
def G6(n:aa)(r:Int × aa):aa:=if r.1=0 then{r.2.err r.1 with lost:=false}else r.2.err r.1
def found(n:aa)(e:Int):aa:=andThen (ia pB (List.range n.blocks.toNat) n) fun n=>n.G6 (n.iF e)
def heard(n:aa)(m:aM):aa:=
 if n.lost=true then(if m.kind=4∧m.e=0∧m.n=n.serial then n.found m.ah else n)else
 if m.kind=2 then n.granted m else if¬m.kind=3∨n.role<2∨ ¬m.ah=n.ah then n else if m.e=20 then n.du else
 if m.e=0∧ ¬n.want=0∧m.n=n.change then n.changed m.seq else n
def wB(n:aa)(m:aM):Bool × aa:=if n.c.k.e<m.ah∧n.less (wH m)=true then n.iO (n.c.reset n.d n.c.k.e n.c.k.s (wH m).l)else(true,n)
def Aa(n:aa)(m:aM):Bool × aa:=if n.more (wH m)=true then n.iO (n.c.note n.d 0 0 (wH m).l)else(true,n)
def uL(m:aM):bd:=⟨m.block,m.ah,m.seq,m.data,true,m.eU,m.n⟩
def wC(n:aa)(m:aM):Bool × aa:=
 if(n.c.put n.d (uL m)).1=12∨(n.c.put n.d (uL m)).1=2∨(n.c.put n.d (uL m)).1=3∨(n.c.put n.d (uL m)).1=1 then(false,n.bf (n.c.put n.d (uL m)))else n.iO (n.c.put n.d (uL m))
def lay(n:aa)(m:aM):Bool × aa:=
 gz (n.wB m) fun n=>if m.block<0 then n.iO (n.c.note n.d m.ah m.seq (wH m).l)else gz (n.Aa m) fun n=>n.wC m
def wk(n:aa)(m:aM):aa:=n.send n.peer {lT with kind:=6,ah:=m.ah,seq:=n.c.k.s}
def taken(n:aa)(m:aM):aa:=
 if pN n.c.k.e n.c.k.s m.ah m.seq=0 then n else
 if pN n.c.k.e n.c.k.s m.ah m.seq=1 then andThen (gz (n.lay m) sync) fun n=>n.wk m else n.wk m
def eT(rb:Nat × Nat)(n:aa)(x:bd):Bool × aa:=if(x.bZ||sN rb.1 rb.2 (x.bE.tdiv 4))=true then n.iO (n.c.drop n.d x.bE)else(true,n)
def cM(n:aa)(m:aM):Bool × aa:=
 if¬(dJ m.row).2.2=0∨ ¬(dJ m.row).1=ef n.dr.n then(false,n)else
 gz (ia (eT ((dJ m.row).1,(dJ m.row).2.1)) n.c.all n) fun n=>gz (n.iO (n.c.reset n.d m.ah m.seq (wH m).l)) sync
def gV(n:aa)(m:aM):aa:=n.send n.peer {lT with kind:=8,ah:=m.ah,seq:=m.seq}
def begun(n:aa)(m:aM):aa:=
 if m.ah<n.c.k.e∨(n.c.k.e=m.ah∧m.seq<n.c.k.s)then n else
 if n.c.k.e=m.ah∧n.c.k.s=m.seq then n.gV m else andThen (n.cM m) fun n=>n.gV m
def H4(n:aa)(m:aM):aa:=if 0<n.role then n else if m.kind=5 then n.taken m else n.begun m
def yu(n:aa)(q:Int):aa:={n with s:=(n.s.wb q).2,quiet:=0}
def LZ(n:aa)(m:aM):aa:=if 2≤n.role∧m.ah=n.ah∧n.jE=true∧(n.s.wb m.seq).1=true then(n.yu m.seq).fY.settle else n
def L2(n:aa)(m:aM):aa:=if n.role=3∧n.alone=true∧n.cm=1∧m.ah=n.ah∧m.seq=n.s.last then n.ready else n
def LY(n:aa)(m:aM):aa:=
 if n.role=0∧m.ah=n.ah∧0≤m.block then
  (if(n.c.clean n.d m.block m.ah m.seq).1=10 then n.bf (n.c.clean n.d m.block m.ah m.seq)else(n.iO (n.c.clean n.d m.block m.ah m.seq)).2)
 else n
def met(n:aa)(m:aM):aa:=
 if m.kind=5∨m.kind=7 then(if m.ah<n.ah then n else andThen (n.eC m.ah) fun n=>n.H4 m)else
 if m.kind=6 then n.LZ m else if m.kind=8 then n.L2 m else if m.kind=9 then n.LY m else n
def nW(n:aa)(jr:Int)(m:aM):aa:=if jr=2 then n.heard m else if jr=3 then n.cZ m else if jr=n.peer then n.met m else n.called jr m
def oQ(n:aa):aa:=if n.down=true then n.clear else n
def tN(n:aa)(l:gI):Int × aa:=
 if n.down=true then(30,n)else
 if¬l.to=n.id∨l.jr<0∨8≤l.jr∨l.jr=n.id then(1,n)else
 if¬(bF l.body).2=0 then((bF l.body).2,n)else
 if l.jr≠2∧n.lost=true then(0,n)else(0,(n.nW l.jr (bF l.body).1).oQ)
def take(n:aa)(l:gI):Int × aa:=n.clear.tN l
end aa
end Go.Sl