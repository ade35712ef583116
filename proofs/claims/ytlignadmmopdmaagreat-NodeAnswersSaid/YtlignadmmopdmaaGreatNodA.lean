/- A part of the proof. -/
import Derived.Test.YtlignadmmopdmaaGreatGK
import Derived.Test.YtlignadmmopdmaaGreatGL
set_option linter.unusedVariables false
set_option linter.unusedSimpArgs false
set_option linter.constructorNameAsVariable false
namespace Go.Sl
/-- A message's record. -/
def msgR(m:MsgM):RecM:=⟨m.kind,[m.epoch,m.seq,m.n,m.block,m.client,m.e,m.t0,m.t1,m.t2,m.t3],[m.data,m.row]⟩
def encMsg(m:MsgM):Bytes:=if m.may=true then recB (msgR m)else []
def msgOf(r:RecM):MsgM:=⟨r.kind,r.nums.getD 0 0,r.nums.getD 1 0,r.nums.getD 2 0,r.nums.getD 3 0,r.nums.getD 4 0,r.nums.getD 5 0,r.nums.getD 6 0,r.nums.getD 7 0,r.nums.getD 8 0,r.nums.getD 9 0,r.texts.getD 0 [],r.texts.getD 1 []⟩
def msgIs(s:Bytes):Bool:=decide ((decM s).2=0)&&decide ((decM s).1.nums.length=10)&&decide ((decM s).1.texts.length=2)&&(msgOf (decM s).1).may
/-- A message's bytes, read. -/
def decMsg(s:Bytes):MsgM × Int:=if msgIs s=true then(msgOf (decM s).1,0)else(.zero,4)
structure LetM where
 frm:Int
 to:Int
 body:Bytes
 deriving DecidableEq
def LetM.cells(x:LetM):List Value:=[iV x.frm,iV x.to,sV x.body]
def letsV(l:List LetM):List Value:=(l.map LetM.cells).flatten
structure ItemM where
 seq:Int
 blk:Int
 data:Bytes
 cl:Int
 n:Int
 deriving DecidableEq
def ItemM.cells(x:ItemM):List Value:=[iV x.seq,iV x.blk,sV x.data,iV x.cl,iV x.n]
def itsV(l:List ItemM):List Value:=(l.map ItemM.cells).flatten
structure WaitM where
 cl:Int
 n:Int
 op:Int
 blk:Int
 seq:Int
 stored:Bool
 load:Int
 deriving DecidableEq
def WaitM.cells(x:WaitM):List Value:=[iV x.cl,iV x.n,iV x.op,iV x.blk,iV x.seq,.bool x.stored,iV x.load]
def waitsV(l:List WaitM):List Value:=(l.map WaitM.cells).flatten
/-- Those that the other one hasn't taken. -/
structure SndM where
 l:List ItemM
 acked:Int
 deriving DecidableEq
def SndM.new(b:Int):SndM:=⟨[],min (max b 0) 4611686018427387904⟩
def SndM.last(S:SndM):Int:=S.acked+S.l.length
def SndM.add(S:SndM)(x:ItemM):(Int × Int) × SndM:=if S.last=4611686018427387904 then((0,23),S)else((S.last+1,0),{S with l:=S.l++[{x with seq:=S.last+1}]})
def SndM.ack(S:SndM)(q:Int):Bool × SndM:=if q≤S.acked∨S.last<q then(false,S)else(true,⟨S.l.drop (q-S.acked).toNat,q⟩)
/-- What is to be done with an item: 0 nothing, 1 take, 2 had. -/
def nextM(le ls e s:Int):Int:=
 if le<e∧s<1 then 0 else
 if e<le then 0 else if s≤(if le<e then 0 else ls)then 2 else if s- 1=(if le<e then 0 else ls)then 1 else 0
structure NodM where
 id:Int
 serial:Int
 lease:Int
 patience:Int
 blocks:Int
 f:CellM
 dr:DrlM
 c:CaM
 left:Int
 down:Bool
 lost:Bool
 epoch:Int
 mask:Int
 clock:Int
 born:Int
 change:Int
 done:T4
 noted:T4
 loads:Int
 out:List LetM
 role:Int
 want:Int
 resync:Int
 quiet:Int
 waits:List WaitM
 s:SndM
 d:Dev
def noughts8:Bytes:=[0,0,0,0,0,0,0,0]
def factB(e:Int):Bytes:=(encM ⟨50,[e],[]⟩).1
namespace NodM
def own(n:NodM):Int:=n.id+1
def peer(n:NodM):Int:=1-n.id
def alone(n:NodM):Bool:= !decide (n.mask=3)
def mirrored(n:NodM):Bool:= !n.alone||decide (n.resync=2)
/-- Where the first was well, the second. -/
def andThen(r:Bool × NodM)(f:NodM→NodM):NodM:=if r.1=true then f r.2 else r.2
def andB(r:Bool × NodM)(f:NodM→Bool × NodM):Bool × NodM:=if r.1=true then f r.2 else r
/-- An error lets it be down. -/
def err(n:NodM)(e:Int):NodM:={n with down:=n.down|| !decide (e=0)}
def forget(n:NodM):NodM:={n with role:=0,want:=0,resync:=0,quiet:=0,waits:=[],s:=SndM.new 0}
def demote(n:NodM):NodM:={n.forget with left:=0}
def send(n:NodM)(to:Int)(m:MsgM):NodM:={n with out:=n.out++[⟨n.id,to,encMsg m⟩]}
def table(n:NodM):T4:=⟨numC n.c.k 0,numC n.c.k 1,numC n.c.k 2,numC n.c.k 3⟩
def cDid(n:NodM)(r:Int × CaM × Dev):NodM:={n with c:=r.2.1,d:=r.2.2}
def dDid(n:NodM)(r:Int × DrlM × Dev):NodM:={n with dr:=r.2.1,d:=r.2.2}
def fDid(n:NodM)(r:Int × CellM × Dev):NodM:={n with f:=r.2.1,d:=r.2.2}
/-- An act of the cache, which must be done. -/
def cOk(n:NodM)(r:Int × CaM × Dev):Bool × NodM:=(decide (r.1=0),(n.cDid r).err r.1)
def dOk(n:NodM)(r:Int × DrlM × Dev):Bool × NodM:=(decide (r.1=0),(n.dDid r).err r.1)
def fOk(n:NodM)(r:Int × CellM × Dev):Bool × NodM:=(decide (r.1=0),(n.fDid r).err r.1)
def sync(n:NodM):Bool × NodM:=n.cOk (n.c.sync n.d)
def adopt(n:NodM)(e:Int):Bool × NodM:=
 if e≤n.epoch then(true,n)else andB (n.demote.fOk (n.f.put n.d (factB e))) fun n=>(true,{n with epoch:=e})
def boot(n:NodM)(e:Int):Int × NodM:=
 let r:=n.f.put n.d (factB e)
 if r.1≠0 then(r.1,n.fDid r)else
 if 16384≤r.2.1.gen then(23,n.fDid r)else
 (0,{n.fDid r with epoch:=e,born:=r.2.1.gen+16384*(n.serial.tmod 16384)})
/-- Over a list, as long as it is well. -/
def eachB{α:Type}(f:NodM→α→Bool × NodM):List α→NodM→Bool × NodM
 | [],n=>(true,n)
 |x::l,n=>if(f n x).1=false then(false,(f n x).2)else eachB f l (f n x).2
def msg0:MsgM:=⟨0,0,0,0,-1,-1,0,0,0,0,0,[],[]⟩
def load(n:NodM)(b num:Int):NodM:=n.send 3 {msg0 with kind:=12,epoch:=n.epoch,n:=num,block:=b}
def store(n:NodM)(x:EntM)(cl num:Int):NodM:=n.send 3 ⟨10,n.epoch,x.vs,num,x.blk,cl,0,n.done.a,n.done.b,n.done.c,n.done.d,x.data,[]⟩
def put(n:NodM)(x:ItemM):NodM:=n.send n.peer ⟨5,n.epoch,x.seq,x.n,x.blk,x.cl,0,n.done.a,n.done.b,n.done.c,n.done.d,x.data,[]⟩
def puts(n:NodM):NodM:=(n.s.l.take 8).foldl put n
def changes(n:NodM)(mk:Int):NodM:=
 let n1:=if n.want≠mk then{n with change:=n.change+1,want:=mk}else n
 n1.send 2 {msg0 with kind:=3,epoch:=n1.epoch,seq:=mk,n:=n1.change}
def noted1(n:NodM):Bool × NodM:=NodM.sync {n with noted:=n.done}
def noteS(n:NodM):NodM:={n with s:=(n.s.add ⟨0,-1,[],-1,0⟩).2}
def note(n:NodM):Bool × NodM:=
 if(n.s.add ⟨0,-1,[],-1,0⟩).1.2≠0 then(true,n)else
 andB (n.noteS.cOk (n.c.note n.d n.epoch (n.s.add ⟨0,-1,[],-1,0⟩).1.1 n.done.l)) noted1
def writingAt(l:List WaitM)(b:Int):Option Nat:=l.findIdx? fun w=>decide (w.op=2)&&decide (w.blk=b)
def writing(n:NodM)(b:Int):Option WaitM:=n.waits.find? fun w=>decide (w.op=2)&&decide (w.blk=b)
def modW(n:NodM)(b:Int)(f:WaitM→WaitM):NodM:=match writingAt n.waits b with
 |some i=>{n with waits:=n.waits.modify i f}
 |none=>n
def itOf(x:EntM):ItemM:=⟨0,x.blk,x.data,x.cl,x.n⟩
def againS(n:NodM)(x:EntM):NodM:={n with s:=(n.s.add (itOf x)).2}
def again1(n:NodM)(x:EntM):Bool × NodM:=
 if x.dirty=false then(true,n)else
 if(n.s.add (itOf x)).1.2≠0 then(false,(n.againS x).err (n.s.add (itOf x)).1.2)else
 andB ((n.againS x).cOk (n.c.put n.d {x with ve:=n.epoch,vs:=(n.s.add (itOf x)).1.1})) fun n'=>(true,n'.modW x.blk fun w=>{w with seq:=(n.s.add (itOf x)).1.1,stored:=false})
def again(n:NodM):Bool × NodM:=eachB again1 n.c.all n
def more(n:NodM)(t:T4):Bool:=decide (numC n.c.k 0<t.a)||decide (numC n.c.k 1<t.b)||decide (numC n.c.k 2<t.c)||decide (numC n.c.k 3<t.d)
def less(n:NodM)(t:T4):Bool:=decide (t.a<numC n.c.k 0)||decide (t.b<numC n.c.k 1)||decide (t.c<numC n.c.k 2)||decide (t.d<numC n.c.k 3)
def marks1(n:NodM)(x:EntM):Bool × NodM:=if x.dirty=false then(true,n)else n.dOk (n.dr.mark n.d x.blk)
def marks(n:NodM):Bool × NodM:=eachB marks1 n.c.all n
def mayW(n:NodM)(w:WaitM):Bool:=n.alone&& !w.stored&&(!decide (n.resync=2)||decide (w.seq≤n.s.acked))
def committed(n:NodM)(w:WaitM):Bool:=if n.alone=false then decide (w.seq≤n.s.acked)else if n.resync=2 then decide (w.seq≤n.s.acked)&&w.stored else w.stored
def answer(n:NodM)(w:WaitM)(e:Int)(data:Bytes):NodM:=n.send (4+w.cl) ⟨15,n.epoch,0,w.n,w.blk,-1,e,0,0,0,0,data,[]⟩
def given(n:NodM)(w:WaitM)(data:Bytes):NodM:=if 0<n.left then n.answer w 0 data else n.answer w 21 []
def flushed(n:NodM)(q:Int):Bool:= !(n.waits.any fun w=>decide (w.op=2)&&decide (w.seq≤q))&& !(n.c.all.any fun x=>x.dirty&&(decide (x.ve<n.epoch)||decide (x.vs≤q)))
/-- One wait of `reads`: what is kept of it, and what is sent. -/
def reads1(n:NodM)(a:List WaitM × NodM)(w:WaitM):List WaitM × NodM:=
 if w.op=1∧w.load=0∧n.writing w.blk=none then
  match aget a.2.c.en w.blk with
  |some x=>(a.1,a.2.given w x.data)
  |none=>(a.1++[{w with load:=a.2.loads+1}],{a.2 with loads:=a.2.loads+1}.load w.blk (a.2.loads+1))
 else if w.op=4∧n.flushed w.seq=true then(a.1,a.2.answer w 0 [])
 else(a.1++[w],a.2)
def reads(n:NodM):NodM:={(n.waits.foldl n.reads1 ([],n)).2 with waits:=(n.waits.foldl n.reads1 ([],n)).1}
def leads(n:NodM):NodM:={n with role:=3,done:=n.table}
/-- Waits that are over go, with what is done then. -/
def delW(p:NodM→WaitM→Bool)(f:NodM→WaitM→NodM):List WaitM→NodM→List WaitM × NodM
 | [],n=>([],n)
 |w::l,n=>if p n w=true then delW p f l (f n w)else(w::(delW p f l n).1,(delW p f l n).2)
def settleP(n:NodM)(w:WaitM):Bool:=decide (w.op=2)&&n.committed w
def settleF(n:NodM)(w:WaitM):NodM:={n with done:=n.done.set w.cl (max (n.done.get w.cl) w.n)}.answer w 0 []
def settle1(n:NodM):NodM:={(delW settleP settleF n.waits n).2 with waits:=(delW settleP settleF n.waits n).1}
def settle2(n:NodM):NodM:=if n.role=2∧n.s.l=[]then n.leads else n
def settle4(n:NodM):NodM:=
 if¬n.resync=2∨ ¬n.want=0∨ ¬n.s.l=[]∨(n.waits.any fun w=>decide (w.op=2))=true then n else
 if n.noted=n.done then n.changes 3 else andThen n.note puts
def settle(n:NodM):NodM:=n.settle1.settle2.reads.settle4
def recover1(n:NodM)(t:T4):Bool × NodM:=if n.more t=true then n.cOk (n.c.note n.d 0 0 t.l)else(true,n)
def recover2(n:NodM):Bool × NodM:=if n.mask=n.own then n.marks else(true,n)
def recS(n:NodM):NodM:={n with s:=SndM.new 0}
def recDone(n:NodM):NodM:={n with done:=n.table}
def recM(n:NodM):NodM:=NodM.puts {n with role:=2}
def recA(n:NodM):NodM:={n with s:=SndM.new n.s.last,role:=3}
def recover3(n:NodM):NodM:=if n.alone=false then andThen n.note recM else andThen n.sync recA
def recover(n:NodM)(t:T4):NodM:=andThen (n.recover1 t) fun n=>andThen n.recover2 fun n=>andThen n.recS.again fun n=>n.recDone.recover3
def readyQ(n:NodM):NodM:={n with resync:=2,quiet:=0}
def ready(n:NodM):NodM:=andThen n.readyQ.again fun n=>andThen n.note puts
def tiredS(n:NodM):NodM:={n with resync:=0,s:=SndM.new n.s.last}
def tired1(n:NodM):NodM:=if n.alone=false∨ ¬n.want=0 then n.changes n.own else n.tiredS.settle
def quiet0(n:NodM):NodM:={n with quiet:=0}
def tired(n:NodM):NodM:=n.quiet0.tired1
def destage1(a:Int × NodM)(b:Nat):Int × NodM:=match aget a.2.c.en b with
 |none=>a
 |some x=>match a.2.writing b with
  |some w=>(a.1,if a.2.mayW w=true then a.2.store x w.cl w.n else a.2)
  |none=>if x.dirty=true∧a.1<4 then(a.1+1,a.2.store x (-1) 0)else a
def destage(n:NodM):NodM:=((List.range n.blocks.toNat).foldl destage1 (0,n)).2
def tockL(n:NodM)(w:WaitM):NodM:=if w.op=1∧0<w.load then n.load w.blk w.load else n
def tock1(n:NodM):NodM:=if n.mirrored=true∧ ¬n.s.l=[]then NodM.puts {n with quiet:=n.quiet+1}else n.quiet0
def tock2(n:NodM):NodM:=if n.patience<n.quiet then n.tired else if¬n.want=0 then n.changes n.want else n
def askedQ(n:NodM):NodM:={n with resync:=1}
def beginM(n:NodM):MsgM:=⟨7,n.epoch,n.s.last,0,-1,-1,0,n.done.a,n.done.b,n.done.c,n.done.d,[],textR (regs n.dr.n) n.dr.bits⟩
def tock3(n:NodM):NodM:=if n.alone=true∧ ¬n.resync=2 then n.askedQ.send n.peer n.beginM else n
def tock5(n:NodM):NodM:=n.waits.foldl tockL n
def tock4(n:NodM):NodM:=if¬n.role=3 then n else n.tock3.destage.tock5
def tock(n:NodM):NodM:=n.tock1.tock2.tock4
def clear(n:NodM):NodM:={n with out:=[]}
def tick0(n:NodM):NodM:={n with clock:=n.clock+1,left:=max (n.left- 1) 0}
def askM(n:NodM):MsgM:={msg0 with kind:=1,epoch:=n.epoch,seq:=if n.role=0 then 1 else 0,n:=n.born*4294967296+n.clock}
def tick2(n:NodM):NodM:=if n.role=1 then n.load (-1) 0 else if 2≤n.role then n.tock else n
def tick1(n:NodM):NodM:=if n.lost=true then n.send 2 {msg0 with kind:=4,n:=n.serial}else(n.send 2 n.askM).tick2
def tick(n:NodM):NodM:=if n.down=true then n.clear else n.clear.tick0.tick1
def loadedP(m:MsgM)(n:NodM)(w:WaitM):Bool:=decide (n.role=3)&&decide (w.op=1)&&decide (0<w.load)&&decide (w.load=m.n)&&decide (w.blk=m.block)
def loaded(n:NodM)(m:MsgM):NodM:=
 {(delW (loadedP m) (fun n w=>n.given w m.data) n.waits n).2 with waits:=(delW (loadedP m) (fun n w=>n.given w m.data) n.waits n).1}
def stored1(n:NodM)(m:MsgM):NodM:=match n.writing m.block with
 |some w=>if w.seq=m.seq then n.modW m.block fun w=>{w with stored:=true}else n
 |none=>n
def cleanM(n:NodM)(m:MsgM):NodM:=if n.mirrored=true then n.send n.peer {msg0 with kind:=9,epoch:=m.epoch,seq:=m.seq,block:=m.block}else n
def stored2(n:NodM)(m:MsgM):NodM:=match aget n.c.en m.block with
 |none=>n
 |some x=>if n.down=true∨(n.writing m.block).isSome=true∨ ¬(x.ve=m.epoch∧x.vs=m.seq)∨x.dirty=false then n else
  andThen (n.cOk (n.c.clean n.d m.block m.epoch m.seq)) fun n=>(n.cleanM m).reads
def stored(n:NodM)(m:MsgM):NodM:=(n.stored1 m).settle.stored2 m
def tOf(m:MsgM):T4:=⟨m.t0,m.t1,m.t2,m.t3⟩
def backed(n:NodM)(m:MsgM):NodM:=
 if¬m.epoch=n.epoch∨n.role=0 then n else if m.e=24 then n.demote else if¬m.e=0 then n else
 if m.kind=13∧n.role=1∧m.block= -1 then n.recover (tOf m)else if m.kind=13 then n.loaded m else
 if m.kind=11∧2≤n.role∧0≤m.block then n.stored m else n
def refused(n:NodM)(m:MsgM):Int:=
 if¬n.role=3 then 20 else if¬0<n.left then 21 else if m.seq<1∨4<m.seq then 1 else if¬m.seq=4∧(m.block<0∨n.blocks≤m.block)then 2 else if m.seq=2∧ ¬(m.data.length:Int)=8 then 3 else 0
def twice1(n:NodM)(w:WaitM)(x:EntM):Bool:=n.alone&&x.dirty&&decide (x.cl=w.cl)&&decide (x.n=w.n)
def twice2(n:NodM)(w:WaitM)(x:EntM):NodM:=if n.mayW w=true then n.store x w.cl w.n else n
def twice(n:NodM)(w:WaitM):NodM:=match n.c.all.find? (n.twice1 w)with
 |none=>n.answer w 0 []
 |some x=>if(n.writing x.blk).isSome=true∨16≤n.waits.length then n.answer w 25 []else
  NodM.twice2 {n with waits:=n.waits++[{w with op:=2,blk:=x.blk,seq:=x.vs}]} {w with op:=2,blk:=x.blk,seq:=x.vs} x
def write1(n:NodM)(w:WaitM):Bool × NodM:=if n.alone=true then n.dOk (n.dr.mark n.d w.blk)else(true,n)
def writeX(n:NodM)(w:WaitM)(data:Bytes):EntM:=⟨w.blk,n.epoch,n.s.last+1,data,true,w.cl,w.n⟩
def writeS(n:NodM)(w:WaitM)(it:ItemM):NodM:={n with s:=(n.s.add it).2,waits:=n.waits++[w]}
def writeA(n:NodM)(q:Int):NodM:={n with s:=(n.s.ack q).2}
def writeP(n:NodM)(it:ItemM):NodM:=if n.mirrored=true then n.put it else n.writeA it.seq
def write3(n:NodM)(w:WaitM)(x:EntM):NodM:=
 ((n.writeS {w with seq:=(n.s.add (itOf x)).1.1} (itOf x)).writeP {itOf x with seq:=(n.s.add (itOf x)).1.1}).twice2 {w with seq:=(n.s.add (itOf x)).1.1} x
def write2(n:NodM)(w:WaitM)(x:EntM):NodM:=
 if(n.c.put n.d x).1=12 then(n.cDid (n.c.put n.d x)).answer w 12 []else
 andThen (n.cOk (n.c.put n.d x)) fun n=>andThen n.sync fun n=>n.write3 w x
def write(n:NodM)(w:WaitM)(data:Bytes):NodM:=
 if 4611686018427387904≤n.s.last then n.answer w 23 []else andThen (n.write1 w) fun n=>n.write2 w (n.writeX w data)
def calledE(n:NodM)(w:WaitM)(m:MsgM):Option Int:=
 let e:=n.refused m
 if e=0∧(w.op=2∨w.op=3)then
  if m.n<numC n.c.k w.cl then none else if m.n=numC n.c.k w.cl then some (-1)else if(n.writing m.block).isSome=true then some 25 else some 0
 else some e
def callW(frm:Int)(m:MsgM):WaitM:=⟨frm- 4,m.n,min m.seq 4,m.block,0,false,0⟩
def addW(n:NodM)(w:WaitM):NodM:={n with waits:=n.waits++[w]}
def called2(n:NodM)(w:WaitM)(data:Bytes):NodM:=
 if w.op=1 then(n.addW w).reads else if w.op=4 then(n.addW {w with seq:=n.s.last}).reads else
 if w.op=3 then n.write {w with op:=2} noughts8 else n.write w data
def called1(n:NodM)(w:WaitM)(e:Int)(data:Bytes):NodM:=
 if e=0∧16≤n.waits.length then n.answer w 25 []else if¬e=0 then n.answer w e []else n.called2 w data
def called(n:NodM)(frm:Int)(m:MsgM):NodM:=
 if¬m.kind=14∨m.n<1∨(n.waits.any fun x=>decide (x.cl=(callW frm m).cl)&&decide (x.n=(callW frm m).n))=true then n else
 match n.calledE (callW frm m) m with
 |none=>n
 |some e=>if e= -1 then n.twice (callW frm m)else n.called1 (callW frm m) e m.data
def stores1(n:NodM)(w:WaitM):NodM:=match aget n.c.en w.blk with
 |none=>n
 |some x=>if w.op=2∧n.mayW w=true then n.store x w.cl w.n else n
def stores(n:NodM):NodM:=n.waits.foldl stores1 n
def alones1(n:NodM):NodM:=if n.role=2 then n.leads else n
def aloneS(n:NodM):NodM:={n with s:=SndM.new n.s.last}
def alones(n:NodM):NodM:=andThen n.marks fun n=>n.aloneS.alones1.stores.settle
def changedM(n:NodM)(mk:Int):NodM:={n with want:=0,resync:=0,quiet:=0,mask:=mk}
def changed1(n:NodM)(mk:Int):NodM:=
 if mk=3 then andThen (n.dOk (n.dr.clear n.d)) settle else if mk=n.own then n.alones else n.demote
def changed(n:NodM)(mk:Int):NodM:=(n.changedM mk).changed1 mk
def leaseT(n:NodM)(z:Int):NodM:={n with left:=max (max n.left (n.lease-(n.clock-z))) 0}
def fence(n:NodM)(mk:Int):NodM:=NodM.load {n with role:=1,mask:=mk,change:=0} (-1) 0
def granted1(n:NodM)(m:MsgM)(z:Int):NodM:=
 if z<0∨n.clock<z then n else
 if n.epoch<m.epoch then andThen (n.adopt m.epoch) fun n=>(n.fence m.seq).leaseT z else
 if m.epoch<n.epoch∨n.role=0 then n else n.leaseT z
def granted(n:NodM)(m:MsgM):NodM:=
 if¬m.e=0∨ ¬m.client=n.id then(if¬m.client=n.id∧n.epoch≤m.epoch∧0<n.role then n.demote else n)else n.granted1 m (m.n-n.born*4294967296)
def found1(n:NodM)(b:Nat):Bool × NodM:=n.dOk (n.dr.mark n.d b)
def found2(n:NodM)(r:Int × NodM):NodM:=if r.1=0 then{r.2.err r.1 with lost:=false}else r.2.err r.1
def found(n:NodM)(e:Int):NodM:=andThen (eachB found1 (List.range n.blocks.toNat) n) fun n=>n.found2 (n.boot e)
def heard(n:NodM)(m:MsgM):NodM:=
 if n.lost=true then(if m.kind=4∧m.e=0∧m.n=n.serial then n.found m.epoch else n)else
 if m.kind=2 then n.granted m else if¬m.kind=3∨n.role<2∨ ¬m.epoch=n.epoch then n else if m.e=20 then n.demote else
 if m.e=0∧ ¬n.want=0∧m.n=n.change then n.changed m.seq else n
def lay1(n:NodM)(m:MsgM):Bool × NodM:=if n.c.k.e<m.epoch∧n.less (tOf m)=true then n.cOk (n.c.reset n.d n.c.k.e n.c.k.s (tOf m).l)else(true,n)
def lay2(n:NodM)(m:MsgM):Bool × NodM:=if n.more (tOf m)=true then n.cOk (n.c.note n.d 0 0 (tOf m).l)else(true,n)
def layX(m:MsgM):EntM:=⟨m.block,m.epoch,m.seq,m.data,true,m.client,m.n⟩
def lay3(n:NodM)(m:MsgM):Bool × NodM:=
 if(n.c.put n.d (layX m)).1=12∨(n.c.put n.d (layX m)).1=2∨(n.c.put n.d (layX m)).1=3∨(n.c.put n.d (layX m)).1=1 then(false,n.cDid (n.c.put n.d (layX m)))else n.cOk (n.c.put n.d (layX m))
def lay(n:NodM)(m:MsgM):Bool × NodM:=
 andB (n.lay1 m) fun n=>if m.block<0 then n.cOk (n.c.note n.d m.epoch m.seq (tOf m).l)else andB (n.lay2 m) fun n=>n.lay3 m
def hadM(n:NodM)(m:MsgM):NodM:=n.send n.peer {msg0 with kind:=6,epoch:=m.epoch,seq:=n.c.k.s}
def taken(n:NodM)(m:MsgM):NodM:=
 if nextM n.c.k.e n.c.k.s m.epoch m.seq=0 then n else
 if nextM n.c.k.e n.c.k.s m.epoch m.seq=1 then andThen (andB (n.lay m) sync) fun n=>n.hadM m else n.hadM m
def cleared1(rb:Nat × Nat)(n:NodM)(x:EntM):Bool × NodM:=if(x.dirty||hasR rb.1 rb.2 (x.blk.tdiv 4))=true then n.cOk (n.c.drop n.d x.blk)else(true,n)
def cleared(n:NodM)(m:MsgM):Bool × NodM:=
 if¬(loadP m.row).2.2=0∨ ¬(loadP m.row).1=regs n.dr.n then(false,n)else
 andB (eachB (cleared1 ((loadP m.row).1,(loadP m.row).2.1)) n.c.all n) fun n=>andB (n.cOk (n.c.reset n.d m.epoch m.seq (tOf m).l)) sync
def readyM(n:NodM)(m:MsgM):NodM:=n.send n.peer {msg0 with kind:=8,epoch:=m.epoch,seq:=m.seq}
def begun(n:NodM)(m:MsgM):NodM:=
 if m.epoch<n.c.k.e∨(n.c.k.e=m.epoch∧m.seq<n.c.k.s)then n else
 if n.c.k.e=m.epoch∧n.c.k.s=m.seq then n.readyM m else andThen (n.cleared m) fun n=>n.readyM m
def met1(n:NodM)(m:MsgM):NodM:=if 0<n.role then n else if m.kind=5 then n.taken m else n.begun m
def metA(n:NodM)(q:Int):NodM:={n with s:=(n.s.ack q).2,quiet:=0}
def metH(n:NodM)(m:MsgM):NodM:=if 2≤n.role∧m.epoch=n.epoch∧n.mirrored=true∧(n.s.ack m.seq).1=true then(n.metA m.seq).stores.settle else n
def metR(n:NodM)(m:MsgM):NodM:=if n.role=3∧n.alone=true∧n.resync=1∧m.epoch=n.epoch∧m.seq=n.s.last then n.ready else n
def metC(n:NodM)(m:MsgM):NodM:=
 if n.role=0∧m.epoch=n.epoch∧0≤m.block then
  (if(n.c.clean n.d m.block m.epoch m.seq).1=10 then n.cDid (n.c.clean n.d m.block m.epoch m.seq)else(n.cOk (n.c.clean n.d m.block m.epoch m.seq)).2)
 else n
def met(n:NodM)(m:MsgM):NodM:=
 if m.kind=5∨m.kind=7 then(if m.epoch<n.epoch then n else andThen (n.adopt m.epoch) fun n=>n.met1 m)else
 if m.kind=6 then n.metH m else if m.kind=8 then n.metR m else if m.kind=9 then n.metC m else n
/-- A letter is taken. -/
def hear(n:NodM)(frm:Int)(m:MsgM):NodM:=if frm=2 then n.heard m else if frm=3 then n.backed m else if frm=n.peer then n.met m else n.called frm m
def hush(n:NodM):NodM:=if n.down=true then n.clear else n
def take1(n:NodM)(l:LetM):Int × NodM:=
 if n.down=true then(30,n)else
 if¬l.to=n.id∨l.frm<0∨8≤l.frm∨l.frm=n.id then(1,n)else
 if¬(decMsg l.body).2=0 then((decMsg l.body).2,n)else
 if l.frm≠2∧n.lost=true then(0,n)else(0,(n.hear l.frm (decMsg l.body).1).hush)
def take(n:NodM)(l:LetM):Int × NodM:=n.clear.take1 l
end NodM
end Go.Sl