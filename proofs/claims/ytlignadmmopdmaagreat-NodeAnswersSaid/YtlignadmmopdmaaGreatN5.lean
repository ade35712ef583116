/- A part of the proof. -/
import Derived.Test.YtlignadmmopdmaaGreatUn
import Derived.Test.YtlignadmmopdmaaGreatN2
import Derived.Test.YtlignadmmopdmaaGreatR3
set_option linter.unusedVariables false
set_option linter.unusedSimpArgs false
set_option linter.constructorNameAsVariable false
namespace Go.Proofs
open _root_.Go.Proofs.Tryz
open Go Go.Sl
namespace W
/-- What stays where it is. -/
structure NF where
 p:Nat
 q:Q3
 pf:Nat
 pl:Nat
 pc:Nat
 A:CaA
/-- What moves. -/
structure NV where
 out:Sv
 sw:Sv
 ps:Nat
 si:Sv
 sl:Sv
abbrev t4V(t:T4):List Value:=[i64 t.a,i64 t.b,i64 t.c,i64 t.d]
def ndC(F:NF)(V:NV)(n:NodM):Seg:=sc F.p [i64 n.id,i64 n.serial,i64 n.lease,i64 n.patience,i64 n.blocks,ptr F.pf,ptr F.pl,ptr F.A.p,i64 n.left,.bool n.down,.bool n.lost,i64 n.epoch,i64 n.mask,i64 n.clock,i64 n.born,i64 n.change,i64 n.done.a,i64 n.done.b,i64 n.done.c,i64 n.done.d,i64 n.noted.a,i64 n.noted.b,i64 n.noted.c,i64 n.noted.d,i64 n.loads,svVal V.out n.out.length,i64 n.role,i64 n.want,i64 n.resync,i64 n.quiet,svVal V.sw n.waits.length,ptr V.ps] 106
def outS(V:NV)(n:NodM):Seg:=svSeg V.out 42 (letsV n.out)
def waiS(V:NV)(n:NodM):Seg:=svSeg V.sw 177 (waitsV n.waits)
abbrev outOk(V:NV)(n:NodM):Prop:=svOk V.out n.out.length 3 (letsV n.out)
abbrev waiOk(V:NV)(n:NodM):Prop:=svOk V.sw n.waits.length 7 (waitsV n.waits)
theorem nWithin [Env]{R:List Seg}{n lo hi:Int}:Con Tryz.prog 41 [i64 n,i64 lo,i64 hi] [] R (Is (.bool (within3 n lo hi)) []):=by
 refine con_enter func41 ntmps41 rfl rfl ?_;refine gc 9 ?_;refine ysp 10 rfl (fun h6=>?_) (fun h6=>?_)
 ·refine gy 8 ?_;refine kretv results41 rfl (L1:=R) zge ?_;exact⟨_,⟨by(simp[within3];omega),rfl⟩,by rfl⟩
 refine gy 8 ?_;refine kretv results41 rfl (L1:=R) zge ?_;exact⟨_,⟨by(simp[within3];omega),rfl⟩,by rfl⟩
theorem nPeer [Env]{R:List Seg}{F:NF}{V:NV}{n:NodM}(hi:n.id=0∨n.id=1):Con Tryz.prog 63 [ptr F.p] [ndC F V n] R (Is (i64 n.peer) [ndC F V n]):=by
 refine con_enter func63 ntmps63 rfl rfl ?_;unfold ndC;refine gc 10 ?_;rw[wr (by omega) (by omega)];refine gy 4 ?_;refine kretv results63 rfl (L1:=[sc F.p _ 106]++R) zge ?_;exact⟨_,⟨by rfl,rfl⟩,by rfl⟩
theorem nOwn [Env]{R:List Seg}{F:NF}{V:NV}{n:NodM}(hi:n.id=0∨n.id=1):Con Tryz.prog 163 [ptr F.p] [ndC F V n] R (Is (i64 n.own) [ndC F V n]):=by
 refine con_enter func163 ntmps163 rfl rfl ?_;unfold ndC;refine gc 10 ?_;rw[wr (by omega) (by omega)];refine gy 4 ?_;refine kretv results163 rfl (L1:=[sc F.p _ 106]++R) zge ?_;exact⟨_,⟨by rfl,rfl⟩,by rfl⟩
theorem nAlone [Env]{R:List Seg}{F:NF}{V:NV}{n:NodM}:Con Tryz.prog 118 [ptr F.p] [ndC F V n] R (Is (.bool n.alone) [ndC F V n]):=by
 refine con_enter func118 ntmps118 rfl rfl ?_;unfold ndC;refine gc 14 ?_;refine kretv results118 rfl (L1:=[sc F.p _ 106]++R) zge ?_;exact⟨_,⟨by rfl,rfl⟩,by rfl⟩
theorem nMirrored [Env]{R:List Seg}{F:NF}{V:NV}{n:NodM}:Con Tryz.prog 114 [ptr F.p] [ndC F V n] R (Is (.bool n.mirrored) [ndC F V n]):=by
 refine con_enter func114 ntmps114 rfl rfl ?_;refine gc 6 ?_;refine yci (nAlone) call118 ?_;unfold ndC;refine gy 2 ?_;refine ysp 6 rfl (fun h40=>?_) (fun h40=>?_)
 ·refine gy 11 ?_;refine kretv results114 rfl (L1:=[sc F.p _ 106]++R) zge ?_;exact⟨_,⟨by(unfold NodM.mirrored;simp_all),rfl⟩,by rfl⟩
 refine gy 11 ?_;refine kretv results114 rfl (L1:=[sc F.p _ 106]++R) zge ?_;exact⟨_,⟨by(unfold NodM.mirrored;simp_all),rfl⟩,by rfl⟩
theorem nOk [Env]{R:List Seg}{F:NF}{V:NV}{n:NodM}{e:Int}:Con Tryz.prog 121 [ptr F.p,i64 e] [ndC F V n] R (Is (.bool (decide (e=0))) [ndC F V (n.err e)]):=by
 unfold NodM.err;refine con_enter func121 ntmps121 rfl rfl ?_;unfold ndC;refine gc 11 ?_;refine ysp 10 rfl (fun h58=>?_) (fun h58=>?_)
 ·refine gy 5 ?_;refine yst (ac_store rfl rfl (by rfl) sizeOf4 zrp rfl rfl) ?_;refine gy 9 ?_;refine kretv results121 rfl (L1:=[sc F.p _ 106]++R) zge ?_;exact⟨_,⟨by rfl,rfl⟩,by simp_all⟩
 refine gy 5 ?_;refine yst (ac_store rfl rfl (by rfl) sizeOf4 zrp rfl rfl) ?_;refine gy 9 ?_;refine kretv results121 rfl (L1:=[sc F.p _ 106]++R) zge ?_;exact⟨_,⟨by rfl,rfl⟩,by simp_all⟩
/-- A letter is sent. -/
def KOut(F:NF)(V:NV)(n':NodM)(v:Value)(L':List Seg):Prop:=
 ∃s,v= .tuple #[]∧svOk s n'.out.length 3 (letsV n'.out)∧L'=[ndC F {V with out:=s} n',svSeg s 42 (letsV n'.out)]
set_option maxHeartbeats 1000000 in
theorem nSend [Env]{R:List Seg}{F:NF}{V:NV}{n:NodM}{to:Int}{m:MsgM}(ho:outOk V n)(hl:n.out.length≤1000000):
   Con Tryz.prog 67 [ptr F.p,i64 to,.agg m.cells.toArray] [ndC F V n,outS V n] R (KOut F V (n.send to m)):=by
 refine con_enter func67 ntmps67 rfl rfl ?_;refine gc 1 ?_;refine ya (ac_box (vs:=m.cells) rfl rfl) rfl ?_;rintro v L' ⟨b5,rfl,rfl⟩;refine gy 3 ?_;refine y (ev_loadAll rfl isAgg34 sizeOf34 zin (by rfl)) rfl ?_;refine yci (nEncode) call123 ?_;refine gy 7 ?_;refine cdraw 16 (od [12,13] 16 0) ([sc b5 _ 34,sc F.p _ 106]++R) Tryz.mixed (by kernel_rfl) zge ?_;unfold ndC outS;refine gh 11 ?_;refine hr rfl (ev_bd (LetM.cells ⟨n.id,to,encMsg m⟩)) rfl ?_;refine ha rfl (ac_bsliceR rfl underlying45 sizeOf42 zeroValue42 rfl rfl rfl rfl ⟨⟨_,_,rfl,(by rfl),(by decide)⟩,trivial⟩ (by dsimp[fillL,splice,vcells,reps]<;>rfl)) rfl ?_;rintro v L' ⟨b25,rfl,rfl⟩;refine⟨zge,?_⟩;refine ha rfl (ac_append (s:=V.out) (xs:=letsV n.out) (m:=n.out.length) (k:=1) (us:=LetM.cells ⟨n.id,to,encMsg m⟩) (size:=3) rfl rfl (by repeat first|exact .z|apply Pk.s) underlying45 underlying45 (by intro q hq;cases hq) typeInfo42 rfl rfl rfl ?ok96 ?src96 ?one96 ?big96) rfl ?_
 case ok96=>exact ho
 case src96=>exact src_at zin rfl rfl
 case one96=>exact let_one _
 case big96=>show(_+_)*33≤_;omega
 rintro v L' ⟨s26,rfl,ok26,rfl⟩;refine⟨zge,?_⟩;rw[←letsV_snoc]at ok26 ⊢;refine gh 3 ?_;refine yst (ac_store rfl rfl (by exact svVal_one _ _) sizeOf45 zrp rfl rfl) ?_;refine gy 1 ?_;refine kendv0 results67 (L1:=[sc F.p _ 106,svSeg s26 _ _]++R) zge ?_;unfold KOut ndC NodM.send;dsimp only;rw[List.length_append];exact⟨_,⟨s26,rfl,ok26,rfl⟩,rfl⟩
set_option maxHeartbeats 1000000 in
theorem nPut [Env]{R:List Seg}{F:NF}{V:NV}{n:NodM}{x:ItemM}(hi:n.id=0∨n.id=1)(ho:outOk V n)(hl:n.out.length≤1000000):
   Con Tryz.prog 160 [ptr F.p,itC x] [ndC F V n,outS V n] R (KOut F V (n.put x)):=by
 refine con_enter func160 ntmps160 rfl rfl ?_;refine gc 1 ?_;refine ya (ac_box (vs:=x.cells) rfl rfl) rfl ?_;rintro v L' ⟨b3,rfl,rfl⟩;refine gy 2 ?_;refine cdraw 22 [(0,true),(1,true),(3,true),(4,true),(5,true),(6,true),(7,true),(8,true),(9,true),(10,true),(11,true),(12,true),(13,true),(14,true),(15,true),(16,true),(17,true),(18,true),(19,true),(20,true),(21,true),(2,false)] (_) Tryz.mixed (by kernel_rfl) .refl ?_;refine gh 17 ?_;refine hr rfl (ev_loadN (u:=t4V n.done) rfl isAgg32 sizeOf32 zin rfl rfl) rfl ?_;refine gh 2 ?_;refine hr rfl (ev_bd (MsgM.cells ⟨5,n.epoch,x.seq,x.n,x.blk,x.cl,0,n.done.a,n.done.b,n.done.c,n.done.d,x.data,[]⟩)) rfl ?_;refine hcall rfl (nPeer ?ni122) rfl call63 ztk rfl ?_
 case ni122=>exact hi
 rintro v L' ⟨rfl,rfl⟩;refine⟨zge,?_⟩;unfold ndC;refine gh 1 ?_;refine ycall (nSend (V:=V) (n:=n) (m:=⟨5,n.epoch,x.seq,x.n,x.blk,x.cl,0,n.done.a,n.done.b,n.done.c,n.done.d,x.data,[]⟩) ?ook123 ?ol123) rfl call67 ztk rfl ?_
 case ook123=>exact ho
 case ol123=>exact hl
 rintro v L' ⟨o26,rfl,oko26,rfl⟩;refine gy 1 ?_;refine kendv0 results160 (L1:=[ndC F _ _,svSeg o26 _ _]++R) zge ?_;exact⟨_,⟨o26,rfl,oko26,rfl⟩,rfl⟩
end W
end Go.Proofs
namespace Go.Sl
open NodM
/-- None of the first i waits writes the block. -/
def noW(l:List WaitM)(b:Int)(i:Nat):Prop:= ∀j,j<i→ ∀w,l[j]? =some w→ ¬(w.op=2∧w.blk=b)
theorem noW_zero(l:List WaitM)(b:Int):noW l b 0:=fun j h=>absurd h (Nat.not_lt_zero j)
theorem noW_succ{l:List WaitM}{b:Int}{i:Nat}{w:WaitM}(h:noW l b i)(hw:l[i]? =some w)(hn: ¬(w.op=2∧w.blk=b)):noW l b (i+1):=by
 intro j hj x hx
 by_cases e:j=i
 · subst e;rw[hw]at hx;cases hx;exact hn
 · exact h j (by omega) x hx
theorem writingAt_some{l:List WaitM}{b:Int}{i:Nat}{w:WaitM}(h:noW l b i)(hw:l[i]? =some w)(hy:w.op=2∧w.blk=b):writingAt l b=some i:=by
 unfold writingAt;obtain⟨h1,h2⟩:=List.getElem?_eq_some_iff.1 hw;rw[List.findIdx?_eq_some_iff_getElem];refine⟨h1,by rw[h2];simp[hy],fun j hj=>?_⟩;have:=h j hj l[j] (List.getElem?_eq_getElem (by omega));simpa using this
theorem writingAt_none{l:List WaitM}{b:Int}(h:noW l b l.length):writingAt l b=none:=by
 unfold writingAt;rw[List.findIdx?_eq_none_iff];intro w hw;obtain⟨j,hj⟩:=List.getElem?_of_mem hw;have:=h j (List.getElem?_eq_some_iff.1 hj).1 w hj;simpa using this
theorem writingAt_get{l:List WaitM}{b:Int}{i:Nat}(h:writingAt l b=some i): ∃w,l[i]? =some w∧w.op=2∧w.blk=b:=by
 unfold writingAt at h;rw[List.findIdx?_eq_some_iff_getElem]at h;obtain⟨h1,h2,_⟩:=h;exact⟨l[i],List.getElem?_eq_getElem h1,by simpa using h2⟩
theorem writing_none{n:NodM}{b:Int}(h:writingAt n.waits b=none):n.writing b=none:=by
 unfold writingAt at h;unfold NodM.writing;rw[List.find?_eq_none];rw[List.findIdx?_eq_none_iff]at h;intro x hx;simpa using h x hx
theorem writing_some{n:NodM}{b:Int}{i:Nat}{w:WaitM}(h:writingAt n.waits b=some i)(hw:n.waits[i]? =some w):n.writing b=some w:=by
 unfold writingAt at h;unfold NodM.writing;rw[List.findIdx?_eq_some_iff_getElem]at h;obtain⟨h1,h2,h3⟩:=h;obtain⟨_,h4⟩:=List.getElem?_eq_some_iff.1 hw;rw[List.find?_eq_some_iff_getElem];refine⟨by rw[←h4];exact h2,i,h1,h4,fun j hj=>?_⟩;have h5:=h3 j hj;simp at h5 ⊢
 by_cases h6:n.waits[j].op=2
 · exact .inr (h5 h6)
 · exact .inl h6
def tabV(c:KeptM)(k:Nat):List Value:=[.int .i64 (if 0<k then numC c 0 else 0),.int .i64 (if 1<k then numC c 1 else 0),.int .i64 (if 2<k then numC c 2 else 0),.int .i64 (if 3<k then numC c 3 else 0)]
theorem tabV_set{c:KeptM}{k:Nat}(h:k<4):(tabV c k).set k (.int .i64 (numC c (k:Nat)))=tabV c (k+1):=by
 match k,h with
 |0,_=>rfl
 |1,_=>rfl
 |2,_=>rfl
 |3,_=>rfl
def t4n(t:T4):Nat→Int
 |0=>t.a
 |1=>t.b
 |2=>t.c
 |_=>t.d
theorem t4_get(t:T4){k:Nat}(h:k<4):([.int .i64 t.a,.int .i64 t.b,.int .i64 t.c,.int .i64 t.d]:List Value)[k]? =some (.int .i64 (t4n t k)):=by
 match k,h with
 |0,_=>rfl
 |1,_=>rfl
 |2,_=>rfl
 |3,_=>rfl
/-- None of the first k numbers is more, or less. -/
def noM(c:KeptM)(t:T4)(k:Nat):Prop:= ∀j:Nat,j<k→ ¬numC c (j:Nat)<t4n t j
def noL(c:KeptM)(t:T4)(k:Nat):Prop:= ∀j:Nat,j<k→ ¬t4n t j<numC c (j:Nat)
theorem noM_zero(c:KeptM)(t:T4):noM c t 0:=fun j h=>absurd h (Nat.not_lt_zero j)
theorem noL_zero(c:KeptM)(t:T4):noL c t 0:=fun j h=>absurd h (Nat.not_lt_zero j)
theorem noM_succ{c:KeptM}{t:T4}{k:Nat}(h:noM c t k)(hn: ¬numC c (k:Nat)<t4n t k):noM c t (k+1):=by
 intro j hj;by_cases e:j=k
 · subst e;exact hn
 · exact h j (by omega)
theorem noL_succ{c:KeptM}{t:T4}{k:Nat}(h:noL c t k)(hn: ¬t4n t k<numC c (k:Nat)):noL c t (k+1):=by
 intro j hj;by_cases e:j=k
 · subst e;exact hn
 · exact h j (by omega)
theorem more_no{n:NodM}{t:T4}(h:noM n.c.k t 4):n.more t=false:=by
 have h0: ¬numC n.c.k 0<t.a:=h 0 (by omega);have h1: ¬numC n.c.k 1<t.b:=h 1 (by omega);have h2: ¬numC n.c.k 2<t.c:=h 2 (by omega);have h3: ¬numC n.c.k 3<t.d:=h 3 (by omega);unfold NodM.more;simp[h0,h1,h2,h3]
theorem less_no{n:NodM}{t:T4}(h:noL n.c.k t 4):n.less t=false:=by
 have h0: ¬t.a<numC n.c.k 0:=h 0 (by omega);have h1: ¬t.b<numC n.c.k 1:=h 1 (by omega);have h2: ¬t.c<numC n.c.k 2:=h 2 (by omega);have h3: ¬t.d<numC n.c.k 3:=h 3 (by omega);unfold NodM.less;simp[h0,h1,h2,h3]
theorem more_yes{n:NodM}{t:T4}{k:Nat}(hk:k<4)(h:numC n.c.k (k:Nat)<t4n t k):n.more t=true:=by
 unfold NodM.more
 match k,hk with
 |0,_=>simp[show numC n.c.k 0<t.a from h]
 |1,_=>simp[show numC n.c.k 1<t.b from h]
 |2,_=>simp[show numC n.c.k 2<t.c from h]
 |3,_=>simp[show numC n.c.k 3<t.d from h]
theorem less_yes{n:NodM}{t:T4}{k:Nat}(hk:k<4)(h:t4n t k<numC n.c.k (k:Nat)):n.less t=true:=by
 unfold NodM.less
 match k,hk with
 |0,_=>simp[show t.a<numC n.c.k 0 from h]
 |1,_=>simp[show t.b<numC n.c.k 1 from h]
 |2,_=>simp[show t.c<numC n.c.k 2 from h]
 |3,_=>simp[show t.d<numC n.c.k 3 from h]
end Go.Sl
namespace Go.Proofs
open _root_.Go.Proofs.Tryz
open Go Go.Sl
namespace W
set_option maxHeartbeats 1000000
theorem nStore [Env]{R:List Seg}{F:NF}{V:NV}{n:NodM}{x:EntM}{cl num:Int}(ho:outOk V n)(hl:n.out.length≤1000000):
   Con Tryz.prog 152 [ptr F.p,entV x,i64 cl,i64 num] [ndC F V n,outS V n] R (KOut F V (n.store x cl num)):=by
 refine con_enter func152 ntmps152 rfl rfl ?_;unfold ndC;refine gc 1 ?_;refine ya (ac_box (vs:=[i64 x.blk,i64 x.ve,i64 x.vs,str x.data,.bool x.dirty,i64 x.cl,i64 x.n]) rfl rfl) rfl ?_;rintro v L' ⟨b5,rfl,rfl⟩;refine gy 2 ?_;refine cdraw 19 (od [] 19 0) (_) Tryz.mixed (by kernel_rfl) .refl ?_;refine gh 15 ?_;refine hr rfl (ev_loadN (u:=t4V n.done) rfl isAgg32 sizeOf32 zin rfl rfl) rfl ?_;refine gh 2 ?_;refine hr rfl (ev_bd (MsgM.cells ⟨10,n.epoch,x.vs,num,x.blk,cl,0,n.done.a,n.done.b,n.done.c,n.done.d,x.data,[]⟩)) rfl ?_;refine gh 1 ?_;refine ycall (nSend (V:=V) (n:=n) (m:=⟨10,n.epoch,x.vs,num,x.blk,cl,0,n.done.a,n.done.b,n.done.c,n.done.d,x.data,[]⟩) ?ook21 ?ol21) rfl call67 ztk rfl ?_
 case ook21=>exact ho
 case ol21=>exact hl
 rintro v L' ⟨o27,rfl,oko27,rfl⟩;refine gy 1 ?_;refine kendv0 results152 (L1:=[ndC F _ _,svSeg o27 _ _]++R) zge ?_;exact⟨_,⟨o27,rfl,oko27,rfl⟩,rfl⟩
theorem nLoad [Env]{R:List Seg}{F:NF}{V:NV}{n:NodM}{b num:Int}(ho:outOk V n)(hl:n.out.length≤1000000):
   Con Tryz.prog 68 [ptr F.p,i64 b,i64 num] [ndC F V n,outS V n] R (KOut F V (n.load b num)):=by
 refine con_enter func68 ntmps68 rfl rfl ?_;unfold ndC;refine gc 8 ?_;refine y (ev_bd (MsgM.cells ⟨12,n.epoch,0,num,b,-1,0,0,0,0,0,[],[]⟩)) rfl ?_;refine ycall (nSend (V:=V) (n:=n) (m:=⟨12,n.epoch,0,num,b,-1,0,0,0,0,0,[],[]⟩) ?ook30 ?ol30) rfl call67 ztk rfl ?_
 case ook30=>exact ho
 case ol30=>exact hl
 rintro v L' ⟨o14,rfl,oko14,rfl⟩;refine gy 1 ?_;refine kendv0 results68 (L1:=[ndC F _ _,svSeg o14 _ _]++R) zge ?_;exact⟨_,⟨o14,rfl,oko14,rfl⟩,rfl⟩
def waV(w:WaitM):Value:= .agg w.cells.toArray
theorem nAnswer [Env]{R:List Seg}{F:NF}{V:NV}{n:NodM}{w:WaitM}{e:Int}{data:Bytes}(hc:0≤w.cl∧w.cl≤3)(ho:outOk V n)(hl:n.out.length≤1000000):
   Con Tryz.prog 101 [ptr F.p,waV w,i64 e,str data] [ndC F V n,outS V n] R (KOut F V (n.answer w e data)):=by
 refine con_enter func101 ntmps101 rfl rfl ?_;unfold ndC;refine gc 1 ?_;refine ya (ac_box (vs:=w.cells) rfl rfl) rfl ?_;rintro v L' ⟨b5,rfl,rfl⟩;refine gy 2 ?_;refine cdraw 15 (od [] 15 0) (_) Tryz.mixed (by kernel_rfl) .refl ?_;refine gh 4 ?_;rw[wr (by omega) (by omega)];refine gh 10 ?_;refine hr rfl (ev_bd (MsgM.cells ⟨15,n.epoch,0,w.n,w.blk,-1,e,0,0,0,0,data,[]⟩)) rfl ?_;refine gh 1 ?_;refine ycall (nSend (V:=V) (n:=n) (m:=⟨15,n.epoch,0,w.n,w.blk,-1,e,0,0,0,0,data,[]⟩) ?ook47 ?ol47) rfl call67 ztk rfl ?_
 case ook47=>exact ho
 case ol47=>exact hl
 rintro v L' ⟨o23,rfl,oko23,rfl⟩;refine gy 1 ?_;refine kendv0 results101 (L1:=[ndC F _ _,svSeg o23 _ _]++R) zge ?_;exact⟨_,⟨o23,rfl,oko23,rfl⟩,rfl⟩
abbrev tiP(F:NF):Value:= .pointer (some ⟨F.p,8,none⟩)
theorem nTSet [Env]{R:List Seg}{F:NF}{V:NV}{n:NodM}{z:Int}:Con Tryz.prog 161 [tiP F,i64 z] [ndC F V n] R (Is (.tuple #[]) [ndC F V {n with left:=max z 0}]):=by
 unfold ndC;have hm:(if 0>z then 0 else z)=max z 0:=by split<;>omega
 refine con_enter func161 ntmps161 rfl rfl ?_;refine gc 3 ?_;refine y (ev_max rfl rfl) rfl ?_;rw[hm];refine gy 2 ?_;refine yst (ac_store rfl rfl (by rfl) sizeOf2 zrp rfl rfl) ?_;refine gy 1 ?_;refine kendv0 results161 (L1:=[sc F.p _ 106]++R) zge ?_;exact⟨_,⟨by rfl,rfl⟩,by rfl⟩
theorem nTTick [Env]{R:List Seg}{F:NF}{V:NV}{n:NodM}(h:0≤n.left∧n.left≤1048576):Con Tryz.prog 66 [tiP F] [ndC F V n] R (Is (.tuple #[]) [ndC F V {n with left:=max (n.left- 1) 0}]):=by
 unfold ndC;have hm:(if 0>n.left- 1 then 0 else n.left- 1)=max (n.left- 1) 0:=by split<;>omega
 refine con_enter func66 ntmps66 rfl rfl ?_;refine gc 7 ?_;rw[wr (by omega) (by omega)];refine y (ev_max rfl rfl) rfl ?_;rw[hm];refine gy 2 ?_;refine yst (ac_store rfl rfl (by rfl) sizeOf2 zrp rfl rfl) ?_;refine gy 1 ?_;refine kendv0 results66 (L1:=[sc F.p _ 106]++R) zge ?_;exact⟨_,⟨by rfl,rfl⟩,by rfl⟩
theorem nTOn [Env]{R:List Seg}{F:NF}{V:NV}{n:NodM}:Con Tryz.prog 150 [tiP F] [ndC F V n] R (Is (.bool (decide (0<n.left))) [ndC F V n]):=by
 unfold ndC;refine con_enter func150 ntmps150 rfl rfl ?_;refine gc 14 ?_;refine kretv results150 rfl (L1:=[sc F.p _ 106]++R) zge ?_;exact⟨_,⟨by rfl,rfl⟩,by rfl⟩
theorem nTLeft [Env]{R:List Seg}{F:NF}{V:NV}{n:NodM}:Con Tryz.prog 50 [tiP F] [ndC F V n] R (Is (i64 n.left) [ndC F V n]):=by
 unfold ndC;refine con_enter func50 ntmps50 rfl rfl ?_;refine gc 13 ?_;refine kretv results50 rfl (L1:=[sc F.p _ 106]++R) zge ?_;exact⟨_,⟨by rfl,rfl⟩,by rfl⟩
theorem nGiven [Env]{R:List Seg}{F:NF}{V:NV}{n:NodM}{w:WaitM}{data:Bytes}(hc:0≤w.cl∧w.cl≤3)(ho:outOk V n)(hl:n.out.length≤1000000):
   Con Tryz.prog 154 [ptr F.p,waV w,str data] [ndC F V n,outS V n] R (KOut F V (n.given w data)):=by
 refine con_enter func154 ntmps154 rfl rfl ?_;unfold ndC;refine gc 1 ?_;refine ya (ac_box (vs:=w.cells) rfl rfl) rfl ?_;rintro v L' ⟨b4,rfl,rfl⟩;refine gy 7 ?_;refine yci (nTOn (V:=V) (n:=n)) call150 ?_;refine gy 2 ?_;refine cc rfl (fun h82=>?_) (fun h82=>?_)
 ·have hg:n.given w data=n.answer w 0 data:=by unfold NodM.given;rw[if_pos (by assumption)]
  refine gc 2 ?_;refine y (ev_loadAll rfl isAgg177 sizeOf177 zin (by rfl)) rfl ?_;refine gy 1 ?_;refine ycall (nAnswer (w:=w) ?oc86 ?ook86 ?ol86) rfl call101 ztk rfl ?_
  case oc86=>exact hc
  case ook86=>exact ho
  case ol86=>exact hl
  rintro v L' ⟨o13,rfl,oko13,rfl⟩;refine gy 4 ?_;refine kretv0 results154 (L1:=[ndC F _ _,svSeg o13 _ _]++R) zge ?_;rw[hg];exact⟨_,⟨o13,rfl,oko13,rfl⟩,rfl⟩
 have hg:n.given w data=n.answer w 21 []:=by unfold NodM.given;rw[if_neg (by assumption)]
 refine gc 4 ?_;refine y (ev_loadAll rfl isAgg177 sizeOf177 zin (by rfl)) rfl ?_;refine ycall (nAnswer (w:=w) (data:=[]) ?oc89 ?ook89 ?ol89) rfl call101 ztk rfl ?_
 case oc89=>exact hc
 case ook89=>exact ho
 case ol89=>exact hl
 rintro v L' ⟨o16,rfl,oko16,rfl⟩;refine gy 1 ?_;refine kendv0 results154 (L1:=[ndC F _ _,svSeg o16 _ _]++R) zge ?_;rw[hg];exact⟨_,⟨o16,rfl,oko16,rfl⟩,rfl⟩
end W
end Go.Proofs
namespace Go.Sl
open NodM
def putL(n:NodM)(x:ItemM):LetM:=⟨n.id,n.peer,encMsg ⟨5,n.epoch,x.seq,x.n,x.blk,x.cl,0,n.done.a,n.done.b,n.done.c,n.done.d,x.data,[]⟩⟩
theorem put_fold(l:List ItemM)(n:NodM):l.foldl put n={n with out:=n.out++l.map (putL n)}:=by
 induction l generalizing n with
 |nil=>simp
 |cons x l ih=>
  rw[List.foldl_cons,ih];have e:(fun y=>putL (n.put x) y)=putL n:=rfl;show{n with out:=(n.out++[putL n x])++l.map (putL (n.put x))}=_;rw[show putL (n.put x)=putL n from rfl];simp
/-- Behind k letters. -/
def putsN(n:NodM)(k:Nat):NodM:=(n.s.l.take k).foldl put n
theorem putsN_eq(n:NodM)(k:Nat):putsN n k={n with out:=n.out++(n.s.l.take k).map (putL n)}:=put_fold _ n
theorem putsN_id(n:NodM)(k:Nat):(putsN n k).id=n.id:=by rw[putsN_eq]
theorem putsN_succ{n:NodM}{k:Nat}{x:ItemM}(h:n.s.l[k]? =some x):(putsN n k).put x=putsN n (k+1):=by
 unfold putsN;rw[take_snoc h,List.foldl_append];rfl
theorem putsN_len(n:NodM)(k:Nat):(putsN n k).out.length=n.out.length+min k n.s.l.length:=by
 rw[putsN_eq];simp
theorem puts_eq(n:NodM):n.puts=putsN n (min n.s.l.length 8):=by
 unfold puts putsN
 by_cases h:n.s.l.length≤8
 · rw[Nat.min_eq_left h,List.take_of_length_le h,List.take_of_length_le (Nat.le_refl _)]
 · rw[Nat.min_eq_right (by omega)]
end Go.Sl
namespace Go.Proofs
open _root_.Go.Proofs.Tryz
open Go Go.Sl
namespace W
set_option maxHeartbeats 1000000
/-- Its letters to the other one. -/
def KPuts(F:NF)(V:NV)(n n':NodM)(v:Value)(L':List Seg):Prop:=
 ∃s,v= .tuple #[]∧svOk s n'.out.length 3 (letsV n'.out)∧L'=[ndC F {V with out:=s} n',svSeg s 42 (letsV n'.out),sndC V.ps V.si n.s,sndI V.si n.s]
theorem nPuts [Env]{R:List Seg}{F:NF}{V:NV}{n:NodM}(hi:n.id=0∨n.id=1)(ho:outOk V n)(hl:n.out.length≤999000)(hs:sndOk V.si n.s)(hn:n.s.l.length≤1000000):
   Con Tryz.prog 125 [ptr F.p] [ndC F V n,outS V n,sndC V.ps V.si n.s,sndI V.si n.s] R (KPuts F V n n.puts):=by
 have hmn:(if(8:Int)<(n.s.l.length:Int)then 8 else(n.s.l.length:Int))=((min n.s.l.length 8:Nat):Int):=by split<;>omega
 obtain⟨mn,hmne⟩: ∃z,min n.s.l.length 8=z:=⟨_,rfl⟩;have hpe:n.puts=putsN n mn:=by rw[puts_eq,hmne]
 rw[hmne]at hmn;have hme:(n.s.l.take mn).length=mn:=by rw[List.length_take];omega
 refine con_enter func125 ntmps125 rfl rfl ?_;unfold ndC;refine gc 6 ?_;refine ycall (nLeft ?sov6 ?sn6) rfl call124 ztk rfl ?_
 case sov6=>exact hs
 case sn6=>exact hn
 rintro v L' ⟨s10,rfl,ok10,rfl⟩;have hrd:RdV [svSeg s10 228 (itsV n.s.l)] (svVal s10 n.s.l.length) n.s.l.length (itsV n.s.l):=rdV_sv .z ok10;have hrs:=hrd.sl (svCap ok10) (s:=5) (lo:=0) (hi:=mn) (Nat.zero_le _) (by omega) (itsV_len _);rw[Nat.zero_mul,List.drop_zero,Nat.sub_zero,itsV_take]at hrs;refine gy 6 ?_;refine y (ev_lenSv rfl underlying168 (by assumption)) rfl ?_;refine y (ev_min rfl rfl) rfl ?_;rw[hmn];refine y (ev_slHV hrd (svCap ok10) rfl rfl underlying168 sizeOf228 (by omega) (by omega)) rfl ?_;refine y (ev_lenV rfl underlying168 hrs.lenVal) rfl ?_;refine gy 4 ?_;refine cloopT (A:=Nat × Sv) (fun x=>[(17,i64 x.1),(16,i64 mn),(15,vSl (svVal s10 n.s.l.length) 0 mn 5),(0,ptr F.p)]) (fun x=>[ndC F {V with out:=x.2} (putsN n x.1),svSeg x.2 42 (letsV (putsN n x.1).out),sndC V.ps V.si n.s,sndI V.si n.s,svSeg s10 228 (itsV n.s.l)]++R) (fun x=>x.1≤mn∧svOk x.2 (putsN n x.1).out.length 3 (letsV (putsN n x.1).out)) (fun x=>mn-x.1) ((0,V.out)) ?_ zsub zge ?_
 · exact⟨Nat.zero_le _,ho⟩
 rintro⟨k,o⟩ hI1 KL1 hL1;obtain⟨hk,hok⟩:=hI1;dsimp only at hk hok ⊢;have hpl:=putsN_len n k;refine gc 5 ?_;refine cc rfl (fun h16=>?_) (fun h16=>?_)
 ·refine gc 5 ?_;obtain⟨x,hx⟩: ∃x,n.s.l[k]? =some x:=⟨_,List.getElem?_eq_getElem (by omega)⟩;have hxt:(n.s.l.take mn)[k]? =some x:=by rw[List.getElem?_take,if_pos (by omega)];exact hx
  refine y (ev_ixV hrs rfl rfl underlying168 sizeOf228 (by omega) (by omega)) rfl ?_;refine y (ev_loadNV (us:=x.cells) (k*5) hrs zge rfl isAgg228 sizeOf228 (by simp) (flV_get item5 hxt) rfl) rfl ?_;refine ya (ac_alloc zeroValue228 rfl) rfl ?_;rintro v L' ⟨b4,rfl,rfl⟩;refine yst (ac_storeN (vs':=x.cells) rfl rfl (item_one x) sizeOf228 zrp rfl (by decide) rfl) ?_;refine gy 4 ?_;refine y (ev_loadAll rfl isAgg228 sizeOf228 zin (by rfl)) rfl ?_;refine ycall (nPut (V:={V with out:=o}) (n:=putsN n k) (x:=x) ?ni23 ?ook23 ?ol23) rfl call160 ztk rfl ?_
  case ni23=>rw[putsN_id];exact hi
  case ook23=>exact hok
  case ol23=>omega
  rintro v L' ⟨o23,rfl,oko23,rfl⟩;rw[putsN_succ hx]at oko23 ⊢;refine gy 5 ?_;rw[show IntKind.i64.wrap ((k:Int)+1)=((k+1:Nat):Int)by rw[wr (by omega) (by omega)];rfl];refine gy 3 ?_;exact hL1 ((k+1,o23)) (⟨by omega,oko23⟩) (by dsimp only;omega) _ _ zsub zge
 have hke:k=mn:=by omega
 refine gc 4 ?_;refine kendv0 results125 (L1:=[ndC F _ _,svSeg o _ _,sndC _ _ _,sndI _ _]++R) zge ?_;rw[hpe,←hke];exact⟨_,⟨o,rfl,hok,rfl⟩,rfl⟩
/-- A change is asked for. -/
theorem nChanges [Env]{R:List Seg}{F:NF}{V:NV}{n:NodM}{mk:Int}(hc:0≤n.change∧n.change≤1000000)(ho:outOk V n)(hl:n.out.length≤1000000):
   Con Tryz.prog 127 [ptr F.p,i64 mk] [ndC F V n,outS V n] R (KOut F V (n.changes mk)):=by
 obtain⟨n1,hn1⟩: ∃z,(if n.want≠mk then{n with change:=n.change+1,want:=mk}else n)=z:=⟨_,rfl⟩;have hch:n.changes mk=n1.send 2 ⟨3,n1.epoch,mk,n1.change,-1,-1,0,0,0,0,0,[],[]⟩:=by unfold NodM.changes;rw[hn1];rfl
 have hou:n1.out=n.out:=by rw[←hn1];split<;>rfl
 have ho1:outOk V n1:=by unfold outOk;rw[hou];exact ho
 refine con_enter func127 ntmps127 rfl rfl ?_;unfold ndC outS;refine cseqT ?_;intro K1 hK1
 have hJr3: ∀x:Unit,(True)→Sk 35 K1 ([(0,ptr F.p),(1,i64 mk)]) ([ndC F V n1,outS V n1]++R):=by
  rintro x hIr3;refine hK1 _ _ ?_;refine cdraw 11 (od [] 11 0) (_) Tryz.mixed (by kernel_rfl) .refl ?_;unfold ndC;refine gh 10 ?_;refine hr rfl (ev_bd (MsgM.cells ⟨3,n1.epoch,mk,n1.change,-1,-1,0,0,0,0,0,[],[]⟩)) rfl ?_;refine gh 1 ?_;refine ycall (nSend (V:=V) (n:=n1) (m:=⟨3,n1.epoch,mk,n1.change,-1,-1,0,0,0,0,0,[],[]⟩) ?ook37 ?ol37) rfl call67 ztk rfl ?_
  case ook37=>exact ho1
  case ol37=>rw[hou];exact hl
  rintro v L' ⟨o34,rfl,oko34,rfl⟩;refine gy 1 ?_;refine kendv0 results127 (L1:=[ndC F _ _,svSeg o34 _ _]++R) zge ?_;rw[hch];exact⟨_,⟨o34,rfl,oko34,rfl⟩,rfl⟩
 clear hK1;refine gc 10 ?_;refine cc rfl (fun h45=>?_) (fun h45=>?_)
 ·rw[if_pos (by simpa using h45)]at hn1;subst hn1;refine gc 6 ?_;rw[wr (by omega) (by omega)];refine gy 2 ?_;refine yst (ac_store rfl rfl (by rfl) sizeOf2 zrp rfl rfl) ?_;refine gy 8 ?_;refine yst (ac_store rfl rfl (by rfl) sizeOf3 zrp rfl rfl) ?_;refine gy 2 ?_;exact ksub zsub zge (hJr3 () trivial)
 rw[if_neg (by simpa using h45)]at hn1;subst hn1;refine gc 2 ?_;exact ksub zsub zge (hJr3 () trivial)
def NV.bare(V:NV)(p:Nat):NV:={V with sw:=none,ps:=p,si:=none}
/-- It forgets what it led by. -/
def KFor(F:NF)(V:NV)(n':NodM)(v:Value)(L':List Seg):Prop:=
 ∃p,v= .tuple #[]∧L'=[ndC F (V.bare p) n',sndC p none (SndM.new 0),sndI none (SndM.new 0),svSeg none 177 []]
theorem nForget [Env]{R:List Seg}{F:NF}{V:NV}{n:NodM}:Con Tryz.prog 42 [ptr F.p] [ndC F V n] R (KFor F V n.forget):=by
 refine con_enter func42 ntmps42 rfl rfl ?_;unfold ndC;refine gc 2 ?_;refine ycall (nSNew) rfl call74 ztk rfl ?_;rintro v L' ⟨p3,rfl,rfl⟩;refine y (ev_be rfl) rfl ?_;refine gy 2 ?_;refine yst (ac_storeN (us:=[i64 0,i64 0,i64 0,i64 0,nilS,ptr p3]) (vs':=[i64 n.id,i64 n.serial,i64 n.lease,i64 n.patience,i64 n.blocks,ptr F.pf,ptr F.pl,ptr F.A.p,i64 n.left,.bool n.down,.bool n.lost,i64 n.epoch,i64 n.mask,i64 n.clock,i64 n.born,i64 n.change,i64 n.done.a,i64 n.done.b,i64 n.done.c,i64 n.done.d,i64 n.noted.a,i64 n.noted.b,i64 n.noted.c,i64 n.noted.d,i64 n.loads,svVal V.out n.out.length,i64 0,i64 0,i64 0,i64 0,nilS,ptr p3]) rfl rfl (by simp[Value.oneCell']) sizeOf104 zrp rfl (by simp) rfl) ?_;refine gy 1 ?_;refine kendv0 results42 (L1:=[sc F.p _ 106,sndC _ _ _,sndI _ _,svSeg none 177 []]++R) zge ?_;exact⟨_,⟨p3,rfl,rfl⟩,rfl⟩
theorem nDemote [Env]{R:List Seg}{F:NF}{V:NV}{n:NodM}:Con Tryz.prog 106 [ptr F.p] [ndC F V n] R (KFor F V n.demote):=by
 refine con_enter func106 ntmps106 rfl rfl ?_;refine gc 2 ?_;refine ycall (nForget) rfl call42 ztk rfl ?_;rintro v L' ⟨p3,rfl,rfl⟩;unfold ndC;refine gy 6 ?_;refine yci (nTSet (V:=V.bare p3) (n:=n.forget)) call161 ?_;refine gy 1 ?_;refine kendv0 results106 (L1:=[ndC F _ _,sndC _ _ _,sndI _ _,svSeg none 177 []]++R) zge ?_;exact⟨_,⟨p3,rfl,rfl⟩,rfl⟩
end W
end Go.Proofs