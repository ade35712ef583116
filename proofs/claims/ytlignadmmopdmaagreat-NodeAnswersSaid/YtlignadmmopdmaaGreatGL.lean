/- A part of the proof. -/
import Derived.Test.YtlignadmmopdmaaGreatGE
import Derived.Carry
import Derived.ProofKit
import Derived.Deep.Slices
import Derived.Deep.Fields
import Derived.Test.YtlignadmmopdmaaGreatGF
import Derived.Test.YtlignadmmopdmaaGreatGG
import Derived.Test.YtlignadmmopdmaaGreatGC
import Derived.OpenShut
import Derived.DeepKeys
import Derived.Scope
set_option linter.unusedVariables false
set_option linter.unusedSimpArgs false
set_option linter.constructorNameAsVariable false
/- From the readings of arguments to what lies below: one segment that holds all that was there. -/
namespace Go.Sl
open Go.ChangeShapes Go.WideShapes Go.ChangeAt Go.RowKit Go.Deep
def baseSeg(W:World):Seg:=W.heap.toList.zipIdx.map fun x=>(x.2,x.1)
abbrev envAt(W:World):Env:=⟨W⟩
theorem baseSeg_mem{W:World}{x:Nat × Obj}:x∈baseSeg W↔W.heap[x.1]? =some x.2:=by
 unfold baseSeg;simp only[List.mem_map];constructor
 ·rintro⟨y,hy,rfl⟩;have:=List.mk_mem_zipIdx_iff_getElem?.1 (show(y.1,y.2)∈_ from hy);simpa using this
 ·intro h;exact⟨(x.2,x.1),List.mk_mem_zipIdx_iff_getElem?.2 (by simpa using h),rfl⟩
theorem has_base(W:World):@Has (envAt W) W [baseSeg W]:=by
 refine @Has.mk (envAt W) _ _ ⟨rfl,rfl,rfl⟩ (fun x hx=>baseSeg_mem.1 (by simpa using hx)) ?_;have:([baseSeg W].flatten.map Prod.fst)=(W.heap.toList.zipIdx).map Prod.snd:=by simp[baseSeg,List.map_map,Function.comp_def]
 rw[this,List.zipIdx_map_snd];exact List.nodup_range'
theorem below_base{W w:World}{L:List Seg}(h:@Has (envAt W) w (L++[baseSeg W])):Below W.heap.size W w:=by
 letI:Env:=envAt W
 have hb: ∀k,k<W.heap.size→w.heap[k]? =W.heap[k]? :=fun k hk=>by
  have h1:W.heap[k]? =some W.heap[k]:=Array.getElem?_eq_getElem hk;have:=h.mem (k,W.heap[k]) (List.mem_flatten.2 ⟨baseSeg W,by simp,baseSeg_mem.2 h1⟩);rw[h1];exact this
 refine⟨h.env.1,h.env.2.1,h.env.2.2,?_,hb⟩;rcases Nat.eq_zero_or_pos W.heap.size with h0|h0
 ·omega
 ·have:=hb (W.heap.size- 1) (by omega);rw[Array.getElem?_eq_getElem (show W.heap.size- 1<W.heap.size by omega)]at this;have:=(Array.getElem?_eq_some_iff.1 this).1;omega
theorem cell_base{W w:World}{a:Addr}{v:Value}(h:@Has (envAt W) w [baseSeg W])(hc:W.cell? a=some v):w.cell? a=some v:=by
 have hb:=below_base (L:=[]) h
 have hl:a.block<W.heap.size:=by
  unfold World.cell? at hc;cases hh:W.heap[a.block]? with
  |none=>rw[hh]at hc;cases hc
  |some o=>exact(Array.getElem?_eq_some_iff.1 hh).1
 unfold World.cell? at hc ⊢;rw[hb.block _ hl];exact hc
theorem flatten_get{α:Type}{f:α→List Value}{k:Nat}(hk:0<k)(hf: ∀x,(f x).length=k): ∀(l:List α) (i r:Nat),r<k→((l.map f).flatten)[i*k+r]? =(l[i]?).bind fun x=>(f x)[r]?
 | [],i,r,_=>by simp
 |x::l,0,r,hr=>by
  simp only[List.map_cons,List.flatten_cons,Nat.zero_mul,Nat.zero_add,List.getElem?_cons_zero,Option.bind_some];rw[List.getElem?_append_left (by rw[hf];exact hr)]
 |x::l,i+1,r,hr=>by
  have ih:=flatten_get hk hf l i r hr;simp only[List.map_cons,List.flatten_cons,List.getElem?_cons_succ];rw[List.getElem?_append_right (by rw[hf,Nat.succ_mul];omega),hf,show(i+1)*k+r-k=i*k+r by rw[Nat.succ_mul];omega];exact ih
theorem flatten_len{α:Type}{f:α→List Value}{k:Nat}(hf: ∀x,(f x).length=k): ∀(l:List α),((l.map f).flatten).length=l.length*k
 | []=>by simp
 |x::l=>by simp only[List.map_cons,List.flatten_cons,List.length_append,hf,flatten_len hf l,List.length_cons,Nat.succ_mul];omega
theorem list_of{α:Type}{p:Nat→α→Prop}: ∀(n:Nat),(∀i,i<n→ ∃a,p i a)→ ∃l:List α,l.length=n∧ ∀i a,l[i]? =some a→p i a
 |0,_=>⟨[],rfl,fun i a h=>by simp at h⟩
 |n+1,h=>by
  obtain⟨l,hl,hp⟩:=list_of n (fun i hi=>h i (by omega));obtain⟨a,ha⟩:=h n (by omega);refine⟨l++[a],by simp[hl],fun i b hb=>?_⟩;rcases Nat.lt_or_ge i l.length with h1|h1
  ·rw[List.getElem?_append_left h1]at hb;exact hp i b hb
  ·rw[List.getElem?_append_right h1]at hb
   have:i-l.length=0:=by
    rcases Nat.eq_zero_or_pos (i-l.length)with h0|h0
    · exact h0
    · rw[List.getElem?_eq_none (by simp;omega)]at hb;cases hb
   rw[this]at hb;simp at hb;subst hb;rw[show i=n by omega];exact ha
theorem addr_add{a:Addr}(h:a.spot=none)(k:Nat):a.add k=⟨a.block,a.off+k,none⟩:=by
 cases a;simp at h;subst h;exact add_lit _ _ _
theorem cell_spot{w:World}{a:Addr}{v:Value}(h:w.cell? a=some v):a.spot=none:=by
 unfold World.cell? at h;split at h
 ·cases hs:a.spot with
  |none=>rfl
  |some s=>rw[hs]at h;simp at h
 ·cases h
section
variable {H : Type} {enc : TypeId × Value → H} {P : Program} {W : World} {base : Nat} {spare : Nat → Bool} {held : Bool}
/-- A slice that is read, element by element. -/
theorem open_sl{t e k fuel:Nat}{cs:List Value}{x:DataW H × List MemPlace}{α:Type}{f:α→List Value}{ok:α→Prop}(ht:P.underlying t=some (.slice e))(hC:P.cellsOf e=k)(hk:0<k)(hf: ∀x,(f x).length=k)
  (he: ∀n cs' y,DataW.trod enc P W base spare held n e cs'=some y→ ∃a,cs'=f a∧ok a) (h:DataW.trod enc P W base spare held fuel t cs=some x):
  ∃(v:Value) (l:List α),cs=[v]∧@RdV (envAt W) [baseSeg W] v l.length (l.map f).flatten∧(∀a∈l,ok a)∧l.length≤maxLen:=by
 rcases open_slice ht h with⟨rfl,_⟩|⟨a,len,cap,m,n,D,Pl,rfl,hb,hl,hm,hmm,hx,hi⟩
 ·exact⟨_,[],rfl,.inl ⟨rfl,rfl,rfl⟩,fun _ h=>(by cases h),Nat.zero_le _⟩
 ·have hlm:len≤m:=by rw[hmm];split<;>omega
  obtain⟨l,hll,hp⟩:=list_of (p:=fun i y=>(∀r,r<k→W.cell? ((a.add (i*k)).add r)=(f y)[r]?)∧ok y) len (fun i hil=>by
   obtain⟨cs',hc,ht'⟩:=hi i (by omega);obtain⟨y,rfl,hy⟩:=he _ _ _ ht';rw[hC]at hc;obtain⟨_,_,hat⟩:=World.cells?_some hc;exact⟨y,fun r hr=>hat r hr,hy⟩)
  have hsp:len≠0→a.spot=none:=fun h0=>by
   obtain⟨y,hy⟩: ∃y,l[0]? =some y:=⟨_,List.getElem?_eq_getElem (by omega)⟩;have h1:=(hp 0 y hy).1 0 hk;have h2:(f y)[0]? =some ((f y)[0]'(by rw[hf];exact hk)):=List.getElem?_eq_getElem _;rw[h2,Nat.zero_mul]at h1;exact cell_spot (a:=a) (by simpa[Addr.add]using h1)
  refine⟨_,l,rfl,.inr ⟨a,cap,by rw[hll],by rw[hll];exact hsp,fun w hw j hj=>?_⟩,fun y hy=>?_,by omega⟩
  ·have hj2:j<len*k:=by rw[flatten_len hf,hll]at hj;exact hj
   have hjk:j=j / k*k+j % k:=by rw[Nat.mul_comm];exact(Nat.div_add_mod j k).symm
   have hil:j / k<len:=Nat.div_lt_of_lt_mul (by rw[Nat.mul_comm];exact hj2);have hr:j % k<k:=Nat.mod_lt _ hk;have hs:=hsp (fun h0=>by rw[h0]at hil;exact absurd hil (Nat.not_lt_zero _));obtain⟨y,hy⟩: ∃y,l[j / k]? =some y:=⟨_,List.getElem?_eq_getElem (by rw[hll];exact hil)⟩;have h1:=(hp _ y hy).1 _ hr;rw[addr_add hs,add_lit,Nat.add_assoc,←hjk]at h1;have h2:=flatten_get hk hf l (j / k) (j % k) hr;rw[←hjk,hy,Option.bind_some]at h2;refine @cell_base W w _ _ hw (h1.trans ?_);rw[←h2,List.getElem?_eq_getElem hj]
  ·obtain⟨i,hi',e⟩:=List.getElem_of_mem hy;exact(hp i y (by rw[←e];exact List.getElem?_eq_getElem hi')).2
theorem open_i64{e n:Nat}{cs:List Value}{y:DataW H × List MemPlace}(he:P.underlying e=some (.int .i64))(h:DataW.trod enc P W base spare held n e cs=some y): ∃i:Int,cs=[.int .i64 i]∧ -9223372036854775808≤i∧i≤9223372036854775807:=by
 obtain⟨n,rfl,_,hw⟩:=DataW.trod_int he h;simp[Lit.wf,IntKind.min,IntKind.max,IntKind.signed,IntKind.bits]at hw;exact⟨n,rfl,by omega,by omega⟩
/-- A struct of two ints. -/
theorem open_pair{e n:Nat}{cs:List Value}{y:DataW H × List MemPlace}{f0 f1:Field}(he:P.underlying e=some (.struct #[f0,f1]))(hone:oneCellFields P #[f0,f1]=true)(hC:P.cellsOf e=2)
  (h0:P.underlying f0.type=some (.int .i64)) (h1:P.underlying f1.type=some (.int .i64)) (h:DataW.trod enc P W base spare held n e cs=some y): ∃x:Int × Int,cs=[.int .i64 x.1,.int .i64 x.2]:=by
 obtain⟨xs,n',_,_,hl,hxl,hf⟩:=DataW.trod_struct he h;rw[hC]at hl
 match cs,hl with
 | [c0,c1],_=>
  obtain⟨o0,k0⟩:=hone_of hone 0 f0 rfl;obtain⟨o1,k1⟩:=hone_of hone 1 f1 rfl;have g0:=hf 0 f0 rfl;have g1:=hf 1 f1 rfl;rw[o0,k0]at g0;rw[o1,k1]at g1
  match xs,hxl with
  | [y0,y1],_=>
   obtain⟨i,e0,_⟩:=open_i64 h0 (cs:=[c0]) (by simpa using g0);obtain⟨j,e1,_⟩:=open_i64 h1 (cs:=[c1]) (by simpa using g1);cases e0;cases e1;exact⟨(i,j),rfl⟩
theorem open_keeps{t e fuel:Nat}{cs:List Value}{x:DataW H × List MemPlace}{f0 f1:Field}(ht:P.underlying t=some (.slice e))(he:P.underlying e=some (.struct #[f0,f1]))(hone:oneCellFields P #[f0,f1]=true)(hC:P.cellsOf e=2)
  (h0:P.underlying f0.type=some (.int .i64)) (h1:P.underlying f1.type=some (.int .i64)) (h:DataW.trod enc P W base spare held fuel t cs=some x):
  ∃v ks,cs=[v]∧@RdV (envAt W) [baseSeg W] v ks.length (keepsV ks)∧ks.length≤maxLen:=by
 obtain⟨v,l,h1,h2,_,h3⟩:=open_sl (f:=fun x:Int × Int=>[Value.int .i64 x.1,Value.int .i64 x.2]) (ok:=fun _=>True) ht hC (by omega) (fun _=>rfl) (fun n cs' y hy=>by
  obtain⟨b,hb⟩:=open_pair he hone hC h0 h1 hy;exact⟨b,hb,trivial⟩) h
 exact⟨v,l,h1,h2,h3⟩
/-- A law that answers true and leaves all that was there as it was. -/
theorem post_law{f:Func}{s:ChangeSpec}{apart fresh handsOn:Bool}{W W':World}{args:Array Value}{L:List Seg}{ds gs:List (DataW H)}{before:List MemPlace}{tb:TypeId}(hlo:laidOutB P=true)
  (hW:DataW.Whole enc P f.params.toList s.vars apart W args.toList ds gs before) (hvs:s.vars=[]) (hh:@Has (envAt W) W' (L++[baseSeg W])) (hrt:f.resultTypes= #[tb]) (htb:P.underlying tb=some .bool)
  (hpt: ∀t∈f.params.toList,P.readableRec t=true∧t<P.types.size) (hfn:s.fn H (ds++gs)={results:=[.lit (.bool true)],args:=ds}):
  s.post enc P f apart fresh handsOn false W args (.bool true) W':=by
 have hb:=below_base hh;have hlt:=fun p hp=>hW.lt p hp
 have hW':=hW;obtain⟨p,q,hA,hV,rfl,hfz,hnd⟩:=hW;have hp: ∀x∈p,x.block<W.heap.size:=fun x hx=>by simpa using hlt x (by simp[hx])
 have carry: ∀{ts:List TypeId} {vs:List Value} {ds:List (DataW H)} {ps:List MemPlace},(∀t∈ts,P.readableRec t=true∧t<P.types.size)→(∀x∈ps,x.block<W.heap.size)→
   DataW.TrodAll enc P W 0 (fun _=>true) true ts vs ds ps→DataW.TrodAll enc P W' 0 (fun b=>decide (b<W.heap.size)) true ts vs ds ps:=by
  intro ts
  induction ts with
  |nil=>
   intro vs ds ps _ _ h;obtain⟨rfl,rfl,rfl⟩:=trodAll_nil h;exact h
  |cons t ts ih=>
   intro vs ds ps ht hps h;obtain⟨v,vs1,d,ds1,a,b,rfl,rfl,rfl,h1,h2⟩:=trodAll_cons h;exact⟨a,b,Below.trod hlo (ht t (by simp)).1 (ht t (by simp)).2 h1 hb (fun x hx=>hps x (by simp[hx])),ih (fun u hu=>ht u (by simp[hu])) (fun x hx=>hps x (by simp[hx])) h2,rfl⟩
 rw[hvs]at hV;obtain⟨rfl,rfl⟩:=trodVars_none hV;refine⟨ds,[],p++[],[],p,[],hW',?_,?_,?_,?_,fun h=>(by cases h)⟩
 ·rw[hfn,hrt];exact trodAll_mk1 (shut_bool htb _)
 ·rw[hfn];exact carry hpt hp hA
 ·rw[hvs,hfn];rfl
 ·refine⟨hb.os,hb.output,fun i hi=>?_⟩;rw[hb.block i hi];split<;>simp_all
end
end Go.Sl
namespace Go.Sl
open Go.ChangeShapes Go.WideShapes Go.ChangeAt Go.RowKit Go.Deep
section
variable {H : Type} {enc : TypeId × Value → H} {P : Program} {W : World} {base : Nat} {spare : Nat → Bool} {held : Bool}
theorem str_eta(s:ByteArray):s=⟨s.data.toList.toArray⟩:=by cases s;simp
end
end Go.Sl
namespace Go.Sl
structure MsgM where
 kind:Int
 epoch:Int
 seq:Int
 n:Int
 block:Int
 client:Int
 e:Int
 t0:Int
 t1:Int
 t2:Int
 t3:Int
 data:Bytes
 row:Bytes
 deriving DecidableEq
def iV(n:Int):Value:= .int .i64 n
def sV(t:Bytes):Value:= .string ⟨t.toArray⟩
def MsgM.cells(m:MsgM):List Value:=[.int .i64 m.kind,.int .i64 m.epoch,.int .i64 m.seq,.int .i64 m.n,.int .i64 m.block,.int .i64 m.client,.int .i64 m.e,.int .i64 m.t0,.int .i64 m.t1,.int .i64 m.t2,.int .i64 m.t3,.string ⟨m.data.toArray⟩,.string ⟨m.row.toArray⟩]
def MsgM.zero:MsgM:=⟨0,0,0,0,0,0,0,0,0,0,0,[],[]⟩
def MsgM.tn(m:MsgM):Nat→Int
 |0=>m.t0
 |1=>m.t1
 |2=>m.t2
 |_=>m.t3
def within3(n lo hi:Int):Bool:=decide (lo≤n)&&decide (n≤hi)
def MsgM.may(m:MsgM):Bool:=within3 m.t0 0 4611686018427387904&&within3 m.t1 0 4611686018427387904&&within3 m.t2 0 4611686018427387904&&within3 m.t3 0 4611686018427387904&&
 decide ((m.data.length:Int)≤40)&&decide ((m.row.length:Int)≤10)&&within3 m.kind 1 15&&within3 m.epoch 0 4611686018427387904&&within3 m.seq 0 4611686018427387904&&within3 m.n (-4611686018427387904) 4611686018427387904&&within3 m.block (-1) 31&&within3 m.client (-1) 3&&within3 m.e 0 31
structure MsgM.ok(m:MsgM):Prop where
 kind:1≤m.kind∧m.kind≤15
 epoch:0≤m.epoch∧m.epoch≤4611686018427387904
 seq:0≤m.seq∧m.seq≤4611686018427387904
 n: -4611686018427387904≤m.n∧m.n≤4611686018427387904
 block: -1≤m.block∧m.block≤31
 client: -1≤m.client∧m.client≤3
 t0:0≤m.t0∧m.t0≤4611686018427387904
 t1:0≤m.t1∧m.t1≤4611686018427387904
 t2:0≤m.t2∧m.t2≤4611686018427387904
 t3:0≤m.t3∧m.t3≤4611686018427387904
 data:m.data.length≤40
theorem MsgM.ok_of{m:MsgM}(h:m.may=true):m.ok:=by
 unfold MsgM.may within3 at h;simp only[Bool.and_eq_true,decide_eq_true_eq]at h;exact⟨by omega,by omega,by omega,by omega,by omega,by omega,by omega,by omega,by omega,by omega,by omega⟩
abbrev Wi:=Int × Int × Int
def wiOk(x:Wi):Bool:=within3 x.1 x.2.1 x.2.2
def wisV(l:List Wi):List Value:=(l.map fun x=>[Value.int .i64 x.1,.int .i64 x.2.1,.int .i64 x.2.2]).flatten
theorem wisV_get: ∀(l:List Wi) (k:Nat) (x:Wi),l[k]? =some x→((wisV l).drop (k*3)).take 3=[.int .i64 x.1,.int .i64 x.2.1,.int .i64 x.2.2]
 | [],k,x,h=>by simp at h
 |z::l,0,x,h=>by simp at h;subst h;simp[wisV]
 |z::l,k+1,x,h=>by
  have:=wisV_get l k x (by simpa using h);rw[show(k+1)*3=3+k*3 by omega,←List.drop_drop];simpa[wisV]using this
theorem put_l{C:CellM}{D:Dev}{s:Bytes}:(C.put D s).2.2.l.length=D.l.length:=by
 unfold CellM.put;split
 ·rfl
 ·split
  ·rfl
  ·dsimp only;split
   ·rw[write_l]
   ·split
    · rw[barrier_l,write_l]
    · rw[barrier_l,write_l]
theorem may_all{m:MsgM}(h:within3 m.t0 0 4611686018427387904=true∧within3 m.t1 0 4611686018427387904=true∧within3 m.t2 0 4611686018427387904=true∧within3 m.t3 0 4611686018427387904=true):
  m.may=(decide ((m.data.length:Int)≤40)&&decide ((m.row.length:Int)≤10)&&([(m.kind,1,15),(m.epoch,0,4611686018427387904),(m.seq,0,4611686018427387904),(m.n,-4611686018427387904,4611686018427387904),(m.block,-1,31),(m.client,-1,3),(m.e,0,31)]:List Wi).all wiOk):=by
 obtain⟨h0,h1,h2,h3⟩:=h;unfold MsgM.may;rw[h0,h1,h2,h3];simp only[List.all_cons,List.all_nil,wiOk,Bool.and_true,Bool.true_and,Bool.and_assoc]
theorem may_not{m:MsgM}{k:Nat}(hk:k<4)(h:within3 (m.tn k) 0 4611686018427387904=false):m.may=false:=by
 unfold MsgM.may
 match k,hk with
 |0,_=>rw[show within3 m.t0 0 4611686018427387904=false from h];rfl
 |1,_=>rw[show within3 m.t1 0 4611686018427387904=false from h];simp
 |2,_=>rw[show within3 m.t2 0 4611686018427387904=false from h];simp
 |3,_=>rw[show within3 m.t3 0 4611686018427387904=false from h];simp
theorem msg_one(m:MsgM): ∀u∈m.cells,u.oneCell'=true:=by
 intro u hu;simp only[MsgM.cells,List.mem_cons,List.not_mem_nil,or_false]at hu;rcases hu with rfl|rfl|rfl|rfl|rfl|rfl|rfl|rfl|rfl|rfl|rfl|rfl|rfl<;>rfl
theorem getd_get{α:Type}{l:List α}{i:Nat}{d:α}(h:i<l.length):l[i]? =some (l.getD i d):=by
 rw[List.getElem?_eq_getElem h,List.getD_eq_getElem?_getD,List.getElem?_eq_getElem h];rfl
theorem within3_iff{n lo hi:Int}:within3 n lo hi=true↔lo≤n∧n≤hi:=by unfold within3;simp
end Go.Sl
/- From the readings of arguments to messages and acts. -/
namespace Go.Sl
open Go.ChangeShapes Go.WideShapes Go.ChangeAt Go.RowKit Go.Deep
theorem flat_at{α:Type}{f:α→List Value}{k:Nat}(hf: ∀x,(f x).length=k): ∀(l:List α) (i:Nat) (x:α),l[i]? =some x→((((l.map f).flatten).drop (i*k)).take k)=f x
 | [],i,x,h=>by simp at h
 |z::l,0,x,h=>by
  simp at h;subst h;simp only[List.map_cons,List.flatten_cons,Nat.zero_mul,List.drop_zero];rw[List.take_append_of_le_length (by rw[hf];exact Nat.le_refl _),List.take_of_length_le (by rw[hf];exact Nat.le_refl _)]
 |z::l,i+1,x,h=>by
  have:=flat_at hf l i x (by simpa using h);rw[show(i+1)*k=k+i*k by rw[Nat.succ_mul];omega,←List.drop_drop];simp only[List.map_cons,List.flatten_cons];have e:(f z++(List.map f l).flatten).drop k=(List.map f l).flatten:=List.drop_left' (hf z);rw[e];exact this
def fieldsAt(P:Program)(fs:Array Field)(l:List (Nat × Nat)):Bool:=(fs.toList.zip l).all fun x=>Nat.beq x.1.offset x.2.1&&Nat.beq (P.cellsOf x.1.type) x.2.2
theorem at_of{P:Program}{fs:Array Field}{l:List (Nat × Nat)}(h:fieldsAt P fs l=true)(i:Nat)(f:Field)(q:Nat × Nat)(hf:fs[i]? =some f)(hq:l[i]? =some q):f.offset=q.1∧P.cellsOf f.type=q.2:=by
 have hm:(f,q)∈fs.toList.zip l:=by
  have:(fs.toList.zip l)[i]? =some (f,q):=by rw[List.getElem?_zip_eq_some];exact⟨by simpa using hf,hq⟩
  exact List.mem_of_getElem? this
 have:=List.all_eq_true.1 h _ hm;simp only[Bool.and_eq_true]at this;exact⟨Nat.eq_of_beq_eq_true this.1,Nat.eq_of_beq_eq_true this.2⟩
section
variable {H : Type} {enc : TypeId × Value → H} {P : Program} {W : World} {base : Nat} {spare : Nat → Bool} {held : Bool}
theorem open_str{e n:Nat}{cs:List Value}{y:DataW H × List MemPlace}(he:P.underlying e=some .string)(h:DataW.trod enc P W base spare held n e cs=some y): ∃b:Bytes,cs=[.string ⟨b.toArray⟩]:=by
 obtain⟨s,hs,_⟩:=DataW.trod_string he h;exact⟨s.data.toList,by rw[hs,←str_eta]⟩
/-- A struct's field, with its place. -/
theorem open_fld{fs:Array Field}{l:List (Nat × Nat)}{cs:List Value}{xs:List (DataW H × List MemPlace)}{n:Nat}(hat:fieldsAt P fs l=true)
  (hf: ∀(i:Nat) (f:Field),fs[i]? =some f→DataW.trod enc P W base spare held n f.type ((cs.drop f.offset).take (P.cellsOf f.type))=xs[i]?) (hx:xs.length=fs.size)
  (i:Nat) (f:Field) (o k:Nat) (h1:fs[i]? =some f) (h2:l[i]? =some (o,k)): ∃y,DataW.trod enc P W base spare held n f.type ((cs.drop o).take k)=some y:=by
 obtain⟨a,b⟩:=at_of hat i f (o,k) h1 h2;have:=hf i f h1;rw[a,b]at this
 have hi:i<fs.size:=by
  rcases Nat.lt_or_ge i fs.size with h|h
  · exact h
  · rw[Array.getElem?_eq_none h]at h1;cases h1
 exact⟨_,this.trans (List.getElem?_eq_getElem (by omega))⟩
abbrev msgAt:List (Nat × Nat):=[(0,1),(1,1),(2,1),(3,1),(4,1),(5,1),(6,1),(7,4),(11,1),(12,1)]
theorem open_msg{e n:Nat}{cs:List Value}{y:DataW H × List MemPlace}{f0 f1 f2 f3 f4 f5 f6 f7 f8 f9:Field}{g:TypeId}(he:P.underlying e=some (.struct #[f0,f1,f2,f3,f4,f5,f6,f7,f8,f9]))(hat:fieldsAt P #[f0,f1,f2,f3,f4,f5,f6,f7,f8,f9] msgAt=true)(hC:P.cellsOf e=13)
  (h0:P.underlying f0.type=some (.int .i64)) (h1:P.underlying f1.type=some (.int .i64)) (h2:P.underlying f2.type=some (.int .i64)) (h3:P.underlying f3.type=some (.int .i64)) (h4:P.underlying f4.type=some (.int .i64)) (h5:P.underlying f5.type=some (.int .i64)) (h6:P.underlying f6.type=some (.int .i64))
  (h7:P.underlying f7.type=some (.array 4 g)) (hg:P.underlying g=some (.int .i64)) (hCg:P.cellsOf g=1) (h8:P.underlying f8.type=some .string) (h9:P.underlying f9.type=some .string)
  (h:DataW.trod enc P W base spare held n e cs=some y): ∃m:MsgM,cs=m.cells:=by
 obtain⟨xs,n',_,_,hl,hxl,hf⟩:=DataW.trod_struct he h;rw[hC]at hl
 match cs,hl with
 | [c0,c1,c2,c3,c4,c5,c6,c7,c8,c9,c10,c11,c12],_=>
  have F:=open_fld hat hf (by simpa using hxl);obtain⟨_,q0⟩:=F 0 f0 0 1 rfl rfl;obtain⟨_,q1⟩:=F 1 f1 1 1 rfl rfl;obtain⟨_,q2⟩:=F 2 f2 2 1 rfl rfl;obtain⟨_,q3⟩:=F 3 f3 3 1 rfl rfl;obtain⟨_,q4⟩:=F 4 f4 4 1 rfl rfl;obtain⟨_,q5⟩:=F 5 f5 5 1 rfl rfl;obtain⟨_,q6⟩:=F 6 f6 6 1 rfl rfl;obtain⟨_,q7⟩:=F 7 f7 7 4 rfl rfl;obtain⟨_,q8⟩:=F 8 f8 11 1 rfl rfl;obtain⟨_,q9⟩:=F 9 f9 12 1 rfl rfl;obtain⟨n0,e0,-⟩:=open_i64 h0 q0;obtain⟨n1,e1,-⟩:=open_i64 h1 q1;obtain⟨n2,e2,-⟩:=open_i64 h2 q2;obtain⟨n3,e3,-⟩:=open_i64 h3 q3;obtain⟨n4,e4,-⟩:=open_i64 h4 q4;obtain⟨n5,e5,-⟩:=open_i64 h5 q5;obtain⟨n6,e6,-⟩:=open_i64 h6 q6;obtain⟨s8,e8⟩:=open_str h8 q8;obtain⟨s9,e9⟩:=open_str h9 q9;obtain⟨zs,m,_,_,_,hzl,hz⟩:=DataW.trod_array h7 q7;rw[hCg]at hz;have Z: ∀k,k<4→ ∃u,zs[k]? =some u:=fun k hk=>⟨_,List.getElem?_eq_getElem (by omega)⟩
  obtain⟨u0,hu0⟩:=Z 0 (by omega);obtain⟨u1,hu1⟩:=Z 1 (by omega);obtain⟨u2,hu2⟩:=Z 2 (by omega);obtain⟨u3,hu3⟩:=Z 3 (by omega);obtain⟨t0,a0,-⟩:=open_i64 hg ((hz 0 (by omega)).trans hu0);obtain⟨t1,a1,-⟩:=open_i64 hg ((hz 1 (by omega)).trans hu1);obtain⟨t2,a2,-⟩:=open_i64 hg ((hz 2 (by omega)).trans hu2);obtain⟨t3,a3,-⟩:=open_i64 hg ((hz 3 (by omega)).trans hu3);simp at e0 e1 e2 e3 e4 e5 e6 e8 e9 a0 a1 a2 a3;subst e0 e1 e2 e3 e4 e5 e6 e8 e9 a0 a1 a2 a3;exact⟨⟨n0,n1,n2,n3,n4,n5,n6,t0,t1,t2,t3,s8,s9⟩,rfl⟩
end
end Go.Sl
namespace Go.Sl
theorem RdV.src [Env]{P:Program}{L:List Seg}{size m:Nat}{v:Value}{vs:List Value}(h:RdV L v m vs)(hl:vs.length=m*size):Src P L size v m vs:=by
 rcases h with⟨rfl,rfl,rfl⟩|⟨a,c,rfl,h3,h2⟩
 ·exact src_nil
 ·refine⟨hl,fun w hh=>⟨by simp[Builtin.lenOf],?_⟩⟩;refine run_firstCells_some w size m _ m c vs hl (fun j v hj=>?_)
  have hj':j<vs.length:=by
   rcases Nat.lt_or_ge j vs.length with h|h
   · exact h
   · rw[List.getElem?_eq_none h]at hj;cases hj
  have hm:m≠0:=fun h0=>by rw[h0,Nat.zero_mul]at hl;omega
  have hs:=h3 hm;have:=h2 w hh j hj';rw[List.getElem?_eq_getElem hj']at hj;cases hj;cases a;simp at hs;subst hs;rw[add_lit];exact this
end Go.Sl
namespace Go.Sl
open Go
inductive Kd where
 |b
 |i (k:IntKind)
 |s
def Kd.ok:Kd→Value→Bool
 | .b,.bool _=>true
 | .i k,.int k' _=>decide (k=k')
 | .s,.string _=>true
 |_,_=>false
def okL:List Kd→List Value→Bool
 | [],[]=>true
 |k::ks,v::vs=>k.ok v&&okL ks vs
 |_,_=>false
theorem okL.len: ∀{ks:List Kd} {vs:List Value},okL ks vs=true→ks.length=vs.length
 | [],[],_=>rfl
 | [],_::_,h=>by cases h
 |_::_,[],h=>by cases h
 |k::ks,v::vs,h=>by
  unfold okL at h;rw[Bool.and_eq_true]at h;rw[List.length_cons,List.length_cons,okL.len h.2]
theorem okL.split: ∀{ps qs:List Kd} {vs:List Value},okL (ps++qs) vs=true→okL ps (vs.take ps.length)=true∧okL qs (vs.drop ps.length)=true
 | [],qs,vs,h=>by
  refine⟨?_,by simpa using h⟩;rfl
 |k::ps,qs,[],h=>by cases h
 |k::ps,qs,v::vs,h=>by
  rw[List.cons_append]at h;unfold okL at h;rw[Bool.and_eq_true]at h;obtain⟨h1,h2⟩:=okL.split h.2;refine⟨?_,by simpa using h2⟩;rw[List.length_cons,List.take_succ_cons];unfold okL;rw[h.1,h1];rfl
def flatFs(P:Program)(F:TypeId→Option (List Kd)):List Field→Nat→Option (List Kd)
 | [],_=>some []
 | f :: fs, o => if f.name ≠ "_" ∧ f.offset = o then
   match F f.type with
   |some l=>(match flatFs P F fs (o+l.length)with|some r=>some (l++r)|none=>none)
   |none=>none
  else none
def flatAt(P:Program):Nat→TypeId→Option (List Kd)
 |0,_=>none
 |m+1,t=>match P.underlying t with
  |some .bool=>some [.b]
  |some (.int q)=>some [.i q]
  |some .string=>some [.s]
  |some (.array n e)=>(match flatAt P m e with
   |some l=>if P.cellsOf t=n*l.length∧P.cellsOf e=l.length then some ((List.replicate n l).flatten)else none
   |none=>none)
  |some (.struct fs)=>if P.stoodInHeld t=false then(match flatFs P (flatAt P m) fs.toList 0 with
   |some l=>if P.cellsOf t=l.length then some l else none
   |none=>none)else none
  |_=>none
structure Fits(P:Program)(t:TypeId)(ks:List Kd)(a:Value):Prop where
 formed:a.formed P t=true
 ok:okL ks a.cells.toList=true
variable {P : Program}
theorem plain_cases{t:TypeId}{m:Nat}{ks:List Kd}(h:flatAt P (m+1) t=some ks):
  (P.plainKey t=true∧ ∃k,ks=[k]∧((P.underlying t=some .bool∧k= .b)∨(∃q,P.underlying t=some (.int q)∧k= .i q)∨(P.underlying t=some .string∧k= .s)))∨
  (∃n e l,P.underlying t=some (.array n e)∧flatAt P m e=some l∧P.cellsOf t=n*l.length∧P.cellsOf e=l.length∧ks=(List.replicate n l).flatten)∨
  (∃fs,P.underlying t=some (.struct fs)∧P.stoodInHeld t=false∧flatFs P (flatAt P m) fs.toList 0=some ks∧P.cellsOf t=ks.length):=by
 unfold flatAt at h;cases hu:P.underlying t with
 |none=>simp[hu]at h
 |some d=>
  cases d
  case bool=>simp[hu]at h;exact .inl ⟨by simp[Program.plainKey,hu],_,h.symm,.inl ⟨rfl,rfl⟩⟩
  case int q=>simp[hu]at h;exact .inl ⟨by simp[Program.plainKey,hu],_,h.symm,.inr (.inl ⟨q,rfl,rfl⟩)⟩
  case string=>simp[hu]at h;exact .inl ⟨by simp[Program.plainKey,hu],_,h.symm,.inr (.inr ⟨rfl,rfl⟩)⟩
  case array n e=>
   simp only[hu]at h;cases hl:flatAt P m e with
   |none=>simp[hl]at h
   |some l=>
    simp only[hl]at h;split at h
    ·rename_i hc;exact .inr (.inl ⟨n,e,l,rfl,hl,hc.1,hc.2,(Option.some.inj h).symm⟩)
    ·cases h
  case struct fs=>
   simp only[hu]at h;split at h
   ·rename_i hs
    cases hl:flatFs P (flatAt P m) fs.toList 0 with
    |none=>simp[hl]at h
    |some l=>
     simp only[hl]at h;split at h
     ·rename_i hc
      have:=Option.some.inj h;subst this;exact .inr (.inr ⟨fs,rfl,hs,hl,hc⟩)
     ·cases h
   ·cases h
  all_goals (simp[hu]at h;done)
theorem ok_one{k:Kd}{vs:List Value}(h:okL [k] vs=true): ∃v,vs=[v]∧k.ok v=true:=by
 match vs,h with
 | [v],h=>unfold okL at h;rw[Bool.and_eq_true]at h;exact⟨v,rfl,h.1⟩
 | [],h=>cases h
 |v::u::vs,h=>unfold okL at h;rw[Bool.and_eq_true]at h;cases h.2
theorem cellsOne{a:Value}{v:Value}{t:TypeId}(hf:a.formed P t=true)(hp:P.plainKey t=true)(h:a.cells.toList=[v]):a=v:=by
 unfold Program.plainKey at hp;cases hu:P.underlying t with
 |none=>simp[hu]at hp
 |some d=>
  cases a
  case agg cs=>cases d<;>simp[hu]at hp<;>simp[Value.formed,hu]at hf
  case tuple cs=>simp[Value.formed]at hf
  all_goals (simp[Value.cells]at h;exact h)
theorem part_flat(w:World){m:Nat}{e:TypeId}{l:List Kd}(h:flatAt P m e=some l){xs:Array Value}{off:Nat}(hx:okL l ((xs.toList.drop off).take l.length)=true):
  ∃a,(part e xs off).run P w= .ok a w∧Fits P e l a∧a.cells.toList=(xs.toList.drop off).take l.length:=by
 cases m with
 |zero=>cases h
 |succ m=>
  have agg:P.cellsOf e=l.length→(∃n e',P.underlying e=some (.array n e'))∨(∃fs,P.underlying e=some (.struct fs))→ ∃a,(part e xs off).run P w= .ok a w∧Fits P e l a∧a.cells.toList=(xs.toList.drop off).take l.length:=by
   intro hc hk;have hinfo: ∃i,P.info? e=some i:=by rcases hk with⟨n,e',hu⟩|⟨fs,hu⟩<;>exact info_of_underlying hu
   obtain⟨i,hi⟩:=hinfo
   have hl:(xs.extract off (off+P.cellsOf e)).toList=(xs.toList.drop off).take l.length:=by
    rw[Array.toList_extract,hc];simp[List.extract]
   have hs:(xs.extract off (off+P.cellsOf e)).size=P.cellsOf e:=by rw[←Array.length_toList,hl,←okL.len hx,hc]
   refine⟨.agg (xs.extract off (off+P.cellsOf e)),?_,⟨?_,by show okL l (xs.extract off (off+P.cellsOf e)).toList=true;rw[hl];exact hx⟩,hl⟩
   ·rcases hk with⟨n,e',hu⟩|⟨fs,hu⟩<;>simp[part,isAgg,run_underlying hu,run_sizeOf w hi]
   ·rcases hk with⟨n,e',hu⟩|⟨fs,hu⟩<;>simp[Value.formed,hu,hs]
  rcases plain_cases h with⟨hp,k,rfl,hk⟩|⟨n,e',l',hu,hl,hc,hc2,rfl⟩|⟨fs,hu,_,hl,hc⟩
  ·obtain⟨v,hv,hkv⟩:=ok_one hx
   have hxo:xs[off]? =some v:=by
    have h0:=congrArg (·[0]?) hv;simp only[List.getElem?_cons_zero,List.length_singleton,List.getElem?_take,Nat.zero_lt_one,if_true,List.getElem?_drop,Nat.add_zero]at h0;simpa using h0
   have hvc:v.cells.toList=[v]:=by
    rcases hk with⟨_,rfl⟩|⟨q,_,rfl⟩|⟨_,rfl⟩<;>cases v<;>simp_all [Kd.ok,Value.cells]
   refine⟨v,run_part_plain w hp hxo,⟨?_,by rw[hvc];unfold okL;rw[hkv];rfl⟩,by rw[hvc,hv]⟩;rcases hk with⟨hu,rfl⟩|⟨q,hu,rfl⟩|⟨hu,rfl⟩<;>cases v<;>simp_all [Kd.ok,Value.formed]
  ·exact agg (by rw[hc];simp) (.inl ⟨n,e',hu⟩)
  ·exact agg hc (.inr ⟨fs,hu⟩)
def EqOk(P:Program)(dd:Nat)(F:TypeId→Option (List Kd)):Prop:=
 ∀(t:TypeId) (ks:List Kd),F t=some ks→ ∀(w:World) (a b:Value),Fits P t ks a→Fits P t ks b→ ∃r:Bool,(Op.equalIn dd t a b).run P w= .ok r w∧(r=true↔a.cells.toList=b.cells.toList)
theorem append_and{a1 b1 c1 d1:List Value}(h:a1.length=b1.length):a1++c1=b1++d1↔(a1=b1∧c1=d1):=
 ⟨fun e=>List.append_inj e h,fun⟨e1,e2⟩=>by rw[e1,e2]⟩
theorem fields_flat{m dd:Nat}(hE:EqOk P dd (flatAt P m))(xs ys:Array Value)(w:World): ∀(fs:List Field) (o:Nat) (ks:List Kd),flatFs P (flatAt P m) fs o=some ks→
  okL ks ((xs.toList.drop o).take ks.length)=true→okL ks ((ys.toList.drop o).take ks.length)=true→
  ∃r:Bool,(Op.eqFields dd xs ys fs).run P w= .ok r w∧(r=true↔(xs.toList.drop o).take ks.length=(ys.toList.drop o).take ks.length)
 | [],o,ks,h,_,_=>by
  unfold flatFs at h;cases h;exact⟨true,by simp[Op.eqFields],by simp⟩
 |f::fs,o,ks,h,hx,hy=>by
  unfold flatFs at h;split at h
  ·rename_i hn
   cases hl:flatAt P m f.type with
   |none=>simp[hl]at h
   |some l=>
    cases hr:flatFs P (flatAt P m) fs (o+l.length)with
    |none=>simp[hl,hr]at h
    |some r=>
     simp only[hl,hr]at h;have:=Option.some.inj h;subst this
     have tk: ∀zs:Array Value,(zs.toList.drop o).take (l++r).length=(zs.toList.drop o).take l.length++(zs.toList.drop (o+l.length)).take r.length:=by
      intro zs;rw[List.length_append,List.take_add,List.drop_drop]
     have lx:=okL.len hx;have ly:=okL.len hy;obtain⟨x1,x2⟩:=okL.split hx;obtain⟨y1,y2⟩:=okL.split hy
     have t1: ∀zs:Array Value,((zs.toList.drop o).take (l++r).length).take l.length=(zs.toList.drop o).take l.length:=by
      intro zs;rw[List.take_take];congr 1;simp
     have t2: ∀zs:Array Value,((zs.toList.drop o).take (l++r).length).drop l.length=(zs.toList.drop (o+l.length)).take r.length:=by
      intro zs;rw[List.drop_take,List.drop_drop];congr 1;simp
     rw[t1]at x1 y1;rw[t2]at x2 y2;obtain⟨a,p1,f1,c1⟩:=part_flat w hl x1;obtain⟨b,p2,f2,c2⟩:=part_flat w hl y1;obtain⟨r1,h3,i3⟩:=hE f.type l hl w a b f1 f2;obtain⟨r2,h4,i4⟩:=fields_flat hE xs ys w fs (o+l.length) r hr x2 y2;rw[←hn.2]at p1 p2;rw[c1,c2]at i3;rw[tk,tk,append_and (by rw[←okL.len x1,←okL.len y1]),←i3,←i4];simp only[Op.eqFields,hn.1,ne_eq,not_false_eq_true,if_true,Sem.run_bind,p1,p2,h3,Result.andThen_ok];cases r1
     ·exact⟨false,by simp,by simp⟩
     ·exact⟨r2,by simpa using h4,by simp⟩
  ·cases h
theorem items_flat{m dd:Nat}{e:TypeId}{l:List Kd}(hl:flatAt P m e=some l)(hc:P.cellsOf e=l.length)(hE:EqOk P dd (flatAt P m))(xs ys:Array Value)(w:World): ∀(n o:Nat),
  okL (List.replicate n l).flatten ((xs.toList.drop (o*l.length)).take (n*l.length))=true→okL (List.replicate n l).flatten ((ys.toList.drop (o*l.length)).take (n*l.length))=true→
  ∃r:Bool,(Op.eqItems dd e (P.cellsOf e) xs ys (List.range' o n)).run P w= .ok r w∧(r=true↔(xs.toList.drop (o*l.length)).take (n*l.length)=(ys.toList.drop (o*l.length)).take (n*l.length))
 |0,o,_,_=>⟨true,by simp[Op.eqItems],by simp⟩
 |n+1,o,hx,hy=>by
  have hfl:(List.replicate (n+1) l).flatten=l++(List.replicate n l).flatten:=by simp[List.replicate_succ]
  rw[hfl]at hx hy
  have tk: ∀zs:Array Value,(zs.toList.drop (o*l.length)).take ((n+1)*l.length)=(zs.toList.drop (o*l.length)).take l.length++(zs.toList.drop ((o+1)*l.length)).take (n*l.length):=by
   intro zs;rw[show(n+1)*l.length=l.length+n*l.length by rw[Nat.add_mul];omega,List.take_add,List.drop_drop,show(o+1)*l.length=o*l.length+l.length by rw[Nat.add_mul];omega]
  obtain⟨x1,x2⟩:=okL.split hx;obtain⟨y1,y2⟩:=okL.split hy
  have hlen: ∀zs:Array Value,okL (l++(List.replicate n l).flatten) ((zs.toList.drop (o*l.length)).take ((n+1)*l.length))=true→((zs.toList.drop (o*l.length)).take l.length).length=l.length:=by
   intro zs hz;have:=okL.len hz;simp at this;rw[List.length_take,List.length_drop];have h2:l.length≤(n+1)*l.length:=by rw[Nat.add_mul];omega
   have h3:(n+1)*l.length=l.length+n*l.length:=by rw[Nat.add_mul];omega
   simp;omega
  have t1: ∀zs:Array Value,((zs.toList.drop (o*l.length)).take ((n+1)*l.length)).take l.length=(zs.toList.drop (o*l.length)).take l.length:=by
   intro zs;rw[List.take_take];congr 1;rw[Nat.add_mul];omega
  have t2: ∀zs:Array Value,((zs.toList.drop (o*l.length)).take ((n+1)*l.length)).drop l.length=(zs.toList.drop ((o+1)*l.length)).take (n*l.length):=by
   intro zs;rw[List.drop_take,List.drop_drop,show(o+1)*l.length=o*l.length+l.length by rw[Nat.add_mul];omega];congr 1;rw[Nat.add_mul];omega
  have hxl:=hlen xs hx;have hyl:=hlen ys hy;rw[t1]at x1 y1;rw[t2]at x2 y2;obtain⟨a,p1,f1,c1⟩:=part_flat w hl x1;obtain⟨b,p2,f2,c2⟩:=part_flat w hl y1;obtain⟨r1,h3,i3⟩:=hE e l hl w a b f1 f2;obtain⟨r2,h4,i4⟩:=items_flat hl hc hE xs ys w n (o+1) x2 y2;rw[c1,c2]at i3;rw[tk,tk,append_and (by rw[hxl,hyl]),←i3,←i4];rw[←hc]at p1 p2;rw[List.range'_succ];simp only[Op.eqItems,Sem.run_bind,p1,p2,h3,Result.andThen_ok];cases r1
  ·exact⟨false,by simp,by simp⟩
  ·exact⟨r2,by simpa using h4,by simp⟩
theorem eq_flat(d:Nat): ∀m:Nat,EqOk P (d+m) (flatAt P m)
 |0=>fun t ks h=>by cases h
 |m+1=>by
  intro t ks h w a b ha hb;have IH:=eq_flat d m;have hla:=okL.len ha.ok;have hlb:=okL.len hb.ok;rcases plain_cases h with⟨hp,k,rfl,hk⟩|⟨n,e',l',hu,hl,hc,hc2,rfl⟩|⟨fs,hu,hs,hl,hc⟩
  ·obtain⟨x,hx,kx⟩:=ok_one ha.ok;obtain⟨y,hy,ky⟩:=ok_one hb.ok;have:=cellsOne ha.formed hp hx;subst this;have:=cellsOne hb.formed hp hy;subst this;rw[hx,hy,show d+(m+1)=(d+m)+1 from rfl];rcases hk with⟨hu,rfl⟩|⟨q,hu,rfl⟩|⟨hu,rfl⟩
   ·cases a<;>cases b<;>simp[Kd.ok]at kx ky
    rename_i p q
    exact⟨_,run_equalIn_bool w _ t p q hu,by simp⟩
   ·cases a<;>cases b<;>simp[Kd.ok]at kx ky
    rename_i k1 p k2 q'
    subst kx;subst ky;exact⟨_,run_equalIn_int w _ t _ _ p q' hu,by simp⟩
   ·cases a<;>cases b<;>simp[Kd.ok]at kx ky
    rename_i p q
    exact⟨_,run_equalIn_string w _ t p q hu,by
     simp only[beq_iff_eq,List.cons.injEq,Value.string.injEq,and_true,ByteArray.toList_eq,Array.toList_inj];exact⟨fun e=>ByteArray.ext e,fun e=>by rw[e]⟩⟩
  ·obtain⟨i,hi⟩:=info_of_underlying hu;have hfa:=ha.formed;have hfb:=hb.formed;cases a<;>simp[Value.formed,hu]at hfa
   cases b<;>simp[Value.formed,hu]at hfb
   rename_i xs ys
   obtain⟨j,hj⟩: ∃j,P.info? e'=some j:=by
    cases m with
    |zero=>cases hl
    |succ m=>
     rcases plain_cases hl with⟨hp,_⟩|⟨_,_,_,hu2,_⟩|⟨_,hu2,_⟩
     ·unfold Program.plainKey at hp;cases hu2:P.underlying e' with
      |none=>simp[hu2]at hp
      |some d=>exact info_of_underlying hu2
     ·exact info_of_underlying hu2
     ·exact info_of_underlying hu2
   have hox:okL (List.replicate n l').flatten ((xs.toList.drop (0*l'.length)).take (n*l'.length))=true:=by
    rw[Nat.zero_mul,List.drop_zero,List.take_of_length_le (by rw[←show(Value.agg xs).cells.toList=xs.toList from rfl,←hla];simp)];exact ha.ok
   have hoy:okL (List.replicate n l').flatten ((ys.toList.drop (0*l'.length)).take (n*l'.length))=true:=by
    rw[Nat.zero_mul,List.drop_zero,List.take_of_length_le (by rw[←show(Value.agg ys).cells.toList=ys.toList from rfl,←hlb];simp)];exact hb.ok
   obtain⟨r,h1,h2⟩:=items_flat hl hc2 IH xs ys w n 0 hox hoy;rw[Nat.zero_mul,List.drop_zero,List.drop_zero,List.take_of_length_le (by rw[←show(Value.agg xs).cells.toList=xs.toList from rfl,←hla];simp),List.take_of_length_le (by rw[←show(Value.agg ys).cells.toList=ys.toList from rfl,←hlb];simp)]at h2;refine⟨r,?_,h2⟩;rw[show d+(m+1)=(d+m)+1 from rfl,run_equalIn_array w (d+m) xs ys hu hj,List.range_eq_range',h1]
  ·have hfa:=ha.formed;have hfb:=hb.formed;cases a<;>simp[Value.formed,hu]at hfa
   cases b<;>simp[Value.formed,hu]at hfb
   rename_i xs ys
   have hfs:P.fieldsOf t=fs:=by simp[Program.fieldsOf,hu]
   have ex:(xs.toList.drop 0).take ks.length=xs.toList:=by rw[List.drop_zero,List.take_of_length_le (by rw[hla];exact Nat.le_refl _)]
   have ey:(ys.toList.drop 0).take ks.length=ys.toList:=by rw[List.drop_zero,List.take_of_length_le (by rw[hlb];exact Nat.le_refl _)]
   obtain⟨r,h1,h2⟩:=fields_flat IH xs ys w fs.toList 0 ks hl (by rw[ex];exact ha.ok) (by rw[ey];exact hb.ok);rw[ex,ey]at h2;refine⟨r,?_,h2⟩;rw[show d+(m+1)=(d+m)+1 from rfl,run_equalIn_struct w (d+m) t xs ys (by rw[hfs];exact hu) hs,hfs,h1]
theorem run_eq_flat{t:TypeId}{ks:List Kd}{xs ys:List Value}(h:flatAt P 8 t=some ks)(hs:(match P.underlying t with|some (.struct _)|some (.array _ _)=>true|_=>false)=true)(hx:okL ks xs=true)(hy:okL ks ys=true)(w:World):
  ∃r:Bool,(Op.equal t (.agg xs.toArray) (.agg ys.toArray)).run P w= .ok r w∧(r=true↔xs=ys):=by
 have hc:P.cellsOf t=ks.length:=by
  rcases plain_cases (m:=7) h with⟨hp,k,rfl,hk⟩|⟨n,e',l',hu,hl,hc,hc2,rfl⟩|⟨fs,hu,_,hl,hc⟩
  · rcases hk with⟨hu,rfl⟩|⟨q,hu,rfl⟩|⟨hu,rfl⟩<;>simp[hu]at hs
  · rw[hc];simp
  · exact hc
 have fit: ∀zs:List Value,okL ks zs=true→Fits P t ks (.agg zs.toArray):=by
  intro zs hz;refine⟨?_,by simpa[Value.cells]using hz⟩;have:=okL.len hz;cases hu:P.underlying t with
  |none=>simp[hu]at hs
  |some d=>cases d<;>simp[hu]at hs<;>simp[Value.formed,hu,hc,this]
 obtain⟨r,h1,h2⟩:=eq_flat (P:=P) 9992 8 t ks h w _ _ (fit xs hx) (fit ys hy);exact⟨r,h1,by simpa[Value.cells]using h2⟩
variable {n : Nat} {l : List (Nat × Value)} {L : List Seg} {d : Option Tmp} {ty : TypeId} {pos : String} {af : Array Edge} {g : Option (Nat × Bool)}
theorem ev_eqlSt [Env]{t t':TypeId}{x y:Operand}{ks:List Kd}{xs ys:List Value}(p:Prop) [Decidable p](hx:ev l x=some (.agg xs.toArray))(hy:ev l y=some (.agg ys.toArray))(h:flatAt P 8 t=some ks)(hm:P.eqGuardType P.depth t=false)
  (hs:(match P.underlying t with|some (.struct _)|some (.array _ _)=>true|_=>false)=true) (h1:okL ks xs=true) (h2:okL ks ys=true) (hp:xs=ys↔p):Ev P n ⟨d,.binOp .eql t x y t',ty,pos,af,g⟩ l L (.bool (decide p)):=
 fun a w hf _=>by
  obtain⟨r,e,e2⟩:=run_eq_flat h hs h1 h2 w;have e3:r=decide p:=by rw[Bool.eq_iff_iff,e2,hp];simp
  simp[execOp,binOp,hf.ev hx,hf.ev hy,run_eqGuard_agg w _ _ _ _ _ _ hm,e,e3]
theorem ev_neqSt [Env]{t t':TypeId}{x y:Operand}{ks:List Kd}{xs ys:List Value}(p:Prop) [Decidable p](hx:ev l x=some (.agg xs.toArray))(hy:ev l y=some (.agg ys.toArray))(h:flatAt P 8 t=some ks)(hm:P.eqGuardType P.depth t=false)
  (hs:(match P.underlying t with|some (.struct _)|some (.array _ _)=>true|_=>false)=true) (h1:okL ks xs=true) (h2:okL ks ys=true) (hp:xs=ys↔p):Ev P n ⟨d,.binOp .neq t x y t',ty,pos,af,g⟩ l L (.bool (!decide p)):=
 fun a w hf _=>by
  obtain⟨r,e,e2⟩:=run_eq_flat h hs h1 h2 w;have e3:r=decide p:=by rw[Bool.eq_iff_iff,e2,hp];simp
  simp[execOp,binOp,hf.ev hx,hf.ev hy,run_eqGuard_agg w _ _ _ _ _ _ hm,e,e3]
/-- All that a comparison asks of its type and its operands' cells. -/
def flatB(P:Program)(t:TypeId)(xs ys:List Value):Bool:=match flatAt P 8 t with
 |some ks=>okL ks xs&&okL ks ys&& !P.eqGuardType P.depth t&&(match P.underlying t with|some (.struct _)|some (.array _ _)=>true|_=>false)
 |none=>false
theorem flatB_of{t:TypeId}{xs ys:List Value}(h:flatB P t xs ys=true): ∃ks,flatAt P 8 t=some ks∧okL ks xs=true∧okL ks ys=true∧P.eqGuardType P.depth t=false∧(match P.underlying t with|some (.struct _)|some (.array _ _)=>true|_=>false)=true:=by
 unfold flatB at h;cases hf:flatAt P 8 t with
 |none=>simp[hf]at h
 |some ks=>
  simp only[hf,Bool.and_eq_true,Bool.not_eq_true']at h;exact⟨ks,rfl,h.1.1.1,h.1.1.2,h.1.2,h.2⟩
theorem ev_eqlF [Env]{t t':TypeId}{x y:Operand}{xs ys:List Value}{p:Prop} [Decidable p](hx:ev l x=some (.agg xs.toArray))(hy:ev l y=some (.agg ys.toArray))(h:flatB P t xs ys=true)(hp:xs=ys↔p):
  Ev P n ⟨d,.binOp .eql t x y t',ty,pos,af,g⟩ l L (.bool (decide p)):=by
 obtain⟨ks,h1,h2,h3,h4,h5⟩:=flatB_of h;exact ev_eqlSt p hx hy h1 h4 h5 h2 h3 hp
theorem ev_neqF [Env]{t t':TypeId}{x y:Operand}{xs ys:List Value}{p:Prop} [Decidable p](hx:ev l x=some (.agg xs.toArray))(hy:ev l y=some (.agg ys.toArray))(h:flatB P t xs ys=true)(hp:xs=ys↔p):
  Ev P n ⟨d,.binOp .neq t x y t',ty,pos,af,g⟩ l L (.bool (!decide p)):=by
 obtain⟨ks,h1,h2,h3,h4,h5⟩:=flatB_of h;exact ev_neqSt p hx hy h1 h4 h5 h2 h3 hp
theorem str_inj{p q:Bytes}:(⟨p.toArray⟩:ByteArray)=⟨q.toArray⟩↔p=q:=
 ⟨fun e=>by have:=congrArg ByteArray.data e;simpa using this,fun e=>by rw[e]⟩
theorem intsV_inj{a b:List Int}:intsV a=intsV b↔a=b:=by
 unfold intsV;constructor
 ·intro h;have hh:Function.Injective (Value.int IntKind.i64):=fun x y e=>by injection e
  exact List.map_inj_right (fun x y e=>hh e)|>.1 h
 ·intro h;rw[h]
theorem MsgM.cells_inj{a b:MsgM}:a.cells=b.cells↔a=b:=by
 constructor
 ·intro h;cases a;cases b;simp only[MsgM.cells,List.cons.injEq,Value.int.injEq,Value.string.injEq,true_and,and_true,str_inj]at h;obtain⟨h1,h2,h3,h4,h5,h6,h7,h8,h9,h10,h11,h12,h13⟩:=h;subst h1;subst h2;subst h3;subst h4;subst h5;subst h6;subst h7;subst h8;subst h9;subst h10;subst h11;subst h12;subst h13;rfl
 ·intro h;rw[h]
end Go.Sl
namespace Go.Sl
open Go.ChangeShapes Go.WideShapes Go.ChangeAt Go.RowKit Go.Deep
section
variable {H : Type} {enc : TypeId × Value → H} {P : Program} {W : World} {base : Nat} {spare : Nat → Bool} {held : Bool}
end
end Go.Sl
namespace Go.Sl
variable {P : Program} {n : Nat} {Q : Exit → Act → World → Prop} {l : List (Nat × Value)} {L : List Seg}
theorem cscope [Env]{c:Code}(h:Sc P n c (Exit.noGoto Q) l L):Sc P n (.scope c) Q l L:=fun a w hf hh=>wp_scope_straight (h a w hf hh)
theorem clabel [Env]{i:Nat}(k:Sk n (Q .normal) l L):Sc P n (.label i) Q l L:=fun a w hf hh=>wp_label (k a w hf hh)
theorem kg [Env]{e:Exit}(he:Exit.noGoto Q e=Q e)(h:Sk n (Q e) l L):Sk n (Exit.noGoto Q e) l L:=by rw[he];exact h
end Go.Sl