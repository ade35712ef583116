/- A part of the proof. -/
import Derived.Test.YtlignadmmopdmaaGreatGA
import Derived.Laws.IdiomStrings
import Derived.IntWalk
import Derived.WalkSpells
set_option linter.unusedVariables false
set_option linter.unusedSimpArgs false
set_option linter.constructorNameAsVariable false
namespace Go.Sl
abbrev Kv:=List (Int × Value × Nat)
def uz(x:Int × Value × Nat):MapEntry:=⟨.int .i64 x.1,x.2.1,x.2.2⟩
def cH(kv:Kv):Array MapEntry:=(kv.map uz).toArray
def ij(kv:Kv)(k:Int):Option Value:=(kv.find? (fun x=>decide (x.1=k))).map (·.2.1)
def EZ(kv:Kv)(k:Int)(v:Value):Kv:=kv.map fun x=>if x.1=k then(k,v,x.2.2)else x
def oT(kv:Kv)(c:Nat)(k:Int)(v:Value):Kv:=if kv.any (fun x=>decide (x.1=k))then EZ kv k v else kv++[(k,v,c)]
def Ab(kv:Kv)(c:Nat)(k:Int):Nat:=if kv.any (fun x=>decide (x.1=k))then c else c+1
def Cx(kv:Kv)(k:Int):Kv:=kv.eraseP fun x=>decide (x.1=k)
def uniq(kv:Kv):Prop:=(kv.map (·.1)).Nodup
theorem sG(k:Int): ∀(kv:Kv) (i:Nat),Instr.findNow (.int .i64) (.int .i64 k) (kv.map uz) i=
  some ((kv.findIdx? (fun x=>decide (x.1=k))).map fun j=>(i+j,((kv[j]?).map (·.2.1)).getD undef))
 | [],i=>by simp[Instr.findNow]
 |x::kv,i=>by
  have ih:=sG k kv (i+1);simp only[List.map_cons,Instr.findNow,uz,Instr.sameNow,if_true]
  by_cases h:x.1=k
  ·simp[List.findIdx?_cons,h]
  ·have hb:(k==x.1)=false:=by simpa using fun e=>h e.symm
   simp only[hb];have h':decide (x.1=k)=false:=by simpa using h
   rw[ih];simp only[List.findIdx?_cons,h'];cases kv.findIdx? (fun x=>decide (x.1=k))with
   |none=>simp
   |some j=>simp;omega
theorem run_findKey{P:Program}{K:TypeId}(hK:P.underlying K=some (.int .i64))(k:Int)(kv:Kv)(w:World):
  (Instr.findKey K (.int .i64 k) (cH kv).toList).run P w= .ok ((kv.findIdx? (fun x=>decide (x.1=k))).map fun j=>(j,((kv[j]?).map (·.2.1)).getD undef)) w:=by
 have:=sG k kv 0;simp only[Nat.zero_add]at this;simp[Instr.findKey,run_underlying hK,cH,this]
theorem run_checkKey{P:Program}{K:TypeId}(hK:P.underlying K=some (.int .i64))(e:Bool)(d:Nat)(k:Int)(w:World):
  (Instr.checkKey e (d+1) K (.int .i64 k)).run P w= .ok () w:=by
 simp[Instr.checkKey,run_underlying hK]
theorem Of(kv:Kv)(k:Int):(kv.findIdx? (fun x=>decide (x.1=k))).map (fun j=>((kv[j]?).map (·.2.1)).getD undef)=ij kv k:=by
 unfold ij
 induction kv with
 |nil=>simp
 |cons x kv ih=>
  by_cases h:x.1=k
  ·simp[List.findIdx?_cons,h]
  ·have h':decide (x.1=k)=false:=by simpa using h
   simp only[List.findIdx?_cons,h',List.find?_cons];rw[←ih];cases kv.findIdx? (fun x=>decide (x.1=k))<;>simp
section
variable {P : Program} {n : Nat} {l : List (Nat × Value)} {L : List ax} {d : Option Tmp} {ty : TypeId} {pos : String} {af : Array Edge} {g : Option (Nat × Bool)}
theorem ir{w:World}{b:Nat}{es:Array MapEntry}{c:Nat}(h:w.heap[b]? =some (.map es c)):(getObj b).run P w= .ok (.map es c) w:=by
 simp[getObj,Sem.run,h]
theorem lV{w:World}{b:Nat}{es:Array MapEntry}{c:Nat}{o:Obj}(h:w.heap[b]? =some (.map es c)):(setObj b o).run P w= .ok () (oz w b o):=by
 simp[setObj,Sem.run,h,oz]
theorem yW{w:World}{T K E:TypeId}{b c:Nat}{kv:Kv}{k:Int}{z:Value}(ok:Bool)(hu:P.underlying T=some (.map K E))(hK:P.underlying K=some (.int .i64))(hz:(zeroValue E).run P w= .ok z w)
  (hb:w.heap[b]? =some (.map (cH kv) c)):
  (Instr.lookup T (.map (some b)) (.int .i64 k) ok).run P w= .ok (if ok then .tuple #[(ij kv k).getD z,.bool (ij kv k).isSome]else(ij kv k).getD z) w:=by
 rw[←Of];have hf:=run_findKey hK k kv w;simp only[Instr.lookup,Sem.run_bind,run_underlying hu,Result.andThen_ok,ir hb,Sem.run_pure,run_checkKey hK,hf];cases kv.findIdx? (fun x=>decide (x.1=k))with
 |none=>simp[hz]
 |some j=>simp
theorem qb [Env]{T K E:TypeId}{x y:Operand}{b c:Nat}{kv:Kv}{k:Int}{z:Value}(hx:ev l x=some (.map (some b)))(hy:ev l y=some (.int .i64 k))(hu:P.underlying T=some (.map K E))(hK:P.underlying K=some (.int .i64))
  (hz: ∀w,(zeroValue E).run P w= .ok z w) (hi:In L (so b (.map (cH kv) c))):
  Ev P n ⟨d,.lookup T x y false,ty,pos,af,g⟩ l L ((ij kv k).getD z):=
 fun a w hf hh=>by simp[execOp,hf.ev hx,hf.ev hy,yW false hu hK (hz w) (hh.obj hi)]
theorem ic [Env]{T K E:TypeId}{x y:Operand}{b c:Nat}{kv:Kv}{k:Int}{z:Value}(hx:ev l x=some (.map (some b)))(hy:ev l y=some (.int .i64 k))(hu:P.underlying T=some (.map K E))(hK:P.underlying K=some (.int .i64))
  (hz: ∀w,(zeroValue E).run P w= .ok z w) (hi:In L (so b (.map (cH kv) c))):
  Ev P n ⟨d,.lookup T x y true,ty,pos,af,g⟩ l L (.tuple [(ij kv k).getD z,.bool (ij kv k).isSome].toArray):=
 fun a w hf hh=>by simp[execOp,hf.ev hx,hf.ev hy,yW true hu hK (hz w) (hh.obj hi)]
theorem nL [Env]{T:TypeId}:Ac P n ⟨d,.makeMap T none,ty,pos,af,g⟩ l L (fun v L'=> ∃b,v= .map (some b)∧L'=so b (.map (cH []) 0)::L):=by
 intro a w hf hh;refine⟨_,_,_,.inl (by simp[execOp,Instr.makeMap];exact⟨rfl,rfl⟩),⟨_,rfl,rfl⟩,?_⟩;exact hh.alloc (.map #[] 0)
theorem CU(m:Nat)(k:IntKind)(x:Int):Instr.sameBits m (.int k x) (.int k x)=true:=by
 cases m<;>simp[Instr.sameBits]
theorem D6(kv:Kv)(k:Int):(kv.findIdx? (fun x=>decide (x.1=k))).isSome=kv.any (fun x=>decide (x.1=k)):=by
 induction kv with
 |nil=>rfl
 |cons x kv ih=>
  by_cases h:x.1=k
  ·simp[List.findIdx?_cons,h]
  ·have h':decide (x.1=k)=false:=by simpa using h
   simp only[List.findIdx?_cons,h',List.any_cons,Bool.false_or,←ih];cases kv.findIdx? (fun x=>decide (x.1=k))<;>simp
theorem EY(kv:Kv)(k:Int)(v:Value)(hu:uniq kv): ∀j,kv.findIdx? (fun x=>decide (x.1=k))=some j→
  (kv.map uz).modify j (fun e=>{e with key:= .int .i64 k,val:=v})=(EZ kv k v).map uz:=by
 unfold EZ
 induction kv with
 |nil=>intro j h;simp at h
 |cons x kv ih=>
  intro j h;have M7:uniq kv:=(List.nodup_cons.1 hu).2
  by_cases hk:x.1=k
  ·simp[List.findIdx?_cons,hk]at h;subst h;have eF: ∀y∈kv,y.1≠k:=fun y hy e=>(List.nodup_cons.1 hu).1 (List.mem_map.2 ⟨y,hy,e.trans hk.symm⟩)
   simp only[List.map_cons,List.modify_zero_cons,if_pos hk,List.map_map];congr 1;apply List.map_congr_left;intro y hy;simp[eF y hy]
  ·have h':decide (x.1=k)=false:=by simpa using hk
   simp[List.findIdx?_cons,h']at h;obtain⟨i,hi,rfl⟩:=h;simp only[List.map_cons,List.modify_succ_cons,if_neg hk];rw[ih M7 i (by simpa using hi)]
theorem iu [Env]{T K E:TypeId}{x y z:Operand}{b c:Nat}{kv:Kv}{k:Int}{v:Value}{L':List ax}(hx:ev l x=some (.map (some b)))(hy:ev l y=some (.int .i64 k))(hz:ev l z=some v)
  (hu:P.underlying T=some (.map K E)) (hK:P.underlying K=some (.int .i64)) (hq:uniq kv) (r:Rp L (so b (.map (cH kv) c)) (so b (.map (cH (oT kv c k v)) (Ab kv c k))) L'):
  Ac P n ⟨d,.mapUpdate T x y z,ty,pos,af,g⟩ l L (KTo L'):=by
 intro a w hf hh;have ee:=r.pk.choose_spec.1.in;have hb:=hh.obj ee;have hfk:=run_findKey hK k kv w;refine⟨undef,oz w b (.map (cH (oT kv c k v)) (Ab kv c k)),L',.inr ⟨?_,rfl⟩,⟨rfl,rfl⟩,hh.oz r⟩;simp only[execOp,hf.ev hx,hf.ev hy,hf.ev hz,Instr.mapUpdate,Sem.run_bind,run_underlying hu,Result.andThen_ok,ir hb,run_checkKey hK,hfk,Sem.run_pure];have ha:=D6 kv k;cases hi:kv.findIdx? (fun x=>decide (x.1=k))with
 |none=>
  rw[hi]at ha;have En:kv.any (fun x=>decide (x.1=k))=false:=by simpa using ha.symm
  simp only[Option.map_none,lV hb,Result.andThen_ok,oT,Ab,En];simp[cH,uz]
 |some j=>
  rw[hi]at ha;have En:kv.any (fun x=>decide (x.1=k))=true:=by simpa using ha.symm
  have M0: ∃hj:j<kv.length,kv[j].1=k:=by
   have:=List.findIdx?_eq_some_iff_getElem.1 hi;obtain⟨hj,h1,_⟩:=this;exact⟨hj,by simpa using h1⟩
  obtain⟨hj,M0⟩:=M0
  have Zk:(((cH kv)[j]?).map (·.key)).getD (Value.int .i64 k)= .int .i64 k:=by
   simp[cH,hj,uz,M0]
  have apt:(cH kv).modify j (fun e=>{e with key:= .int .i64 k,val:=v})=cH (EZ kv k v):=by
   unfold cH;rw[←EY kv k v hq j hi];simp
  simp only[Option.map_some,Zk,Instr.keyThatStays,CU,if_true,pure_bind,apt,Result.andThen_ok,lV hb,oT,Ab,En]
theorem Ao [Env]{T K E:TypeId}{x:Operand}{b c:Nat}{es:Array MapEntry}{L':List ax}(hx:ev l x=some (.map (some b)))(hu:P.underlying T=some (.map K E))(r:Rp L (so b (.map es c)) (so b (.map (cH []) c)) L'):
  Ac P n ⟨d,.call {callee:= .builtin .clear,args:= #[x],argTypes:= #[T]},ty,pos,af,g⟩ l L (fun v Nk=>v= .tuple #[]∧Nk=L'):=by
 intro a w hf hh;have hb:=hh.obj r.pk.choose_spec.1.in;refine⟨.tuple #[],oz w b (.map #[] c),L',.inl ?_,⟨rfl,rfl⟩,hh.oz r⟩;simp[execOp,resolve,invoke,builtin,hf.ev hx,Builtin.clear_,run_underlying hu,ir hb,lV hb]
theorem Ap [Env]{T K E:TypeId}{x y:Operand}{b c:Nat}{kv:Kv}{k:Int}{ts:Array TypeId}{L':List ax}(hx:ev l x=some (.map (some b)))(hy:ev l y=some (.int .i64 k))(hu:P.underlying T=some (.map K E))(hK:P.underlying K=some (.int .i64))
  (hts:ts[0]? =some T) (r:Rp L (so b (.map (cH kv) c)) (so b (.map (cH (Cx kv k)) c)) L'):
  Ac P n ⟨d,.call {callee:= .builtin .delete,args:= #[x,y],argTypes:=ts},ty,pos,af,g⟩ l L (fun v Nk=>v= .tuple #[]∧Nk=L'):=by
 intro a w hf hh;have hb:=hh.obj r.pk.choose_spec.1.in;have hfk:=run_findKey hK k kv w;refine⟨.tuple #[],oz w b (.map (cH (Cx kv k)) c),L',.inl ?_,⟨rfl,rfl⟩,hh.oz r⟩
 have ao8: ∀j,kv.findIdx? (fun x=>decide (x.1=k))=some j→(cH kv).eraseIdxIfInBounds j=cH (Cx kv k):=by
  intro j hj;have MZ:=(List.findIdx?_eq_some_iff_getElem.1 hj);obtain⟨EH,_,_⟩:=MZ
  have e1:kv.eraseIdx j=Cx kv k:=by
   unfold Cx;rw[List.eraseP_eq_eraseIdx,hj]
  unfold cH;rw[←e1]
  have: ∀(q:Kv) (i:Nat),(q.eraseIdx i).map uz=(q.map uz).eraseIdx i:=by
   intro q
   induction q with
   |nil=>intro i;rfl
   |cons a q ih=>intro i;cases i<;>simp[ih]
  rw[this];simp[Array.eraseIdxIfInBounds,EH]
 have O3:kv.findIdx? (fun x=>decide (x.1=k))=none→Cx kv k=kv:=by
  intro h;unfold Cx;rw[List.eraseP_eq_eraseIdx,h]
 cases hi:kv.findIdx? (fun x=>decide (x.1=k))with
 |none=>
  rw[hi]at hfk;simp[execOp,resolve,invoke,builtin,hf.ev hx,hf.ev hy,Builtin.delete_,hts,run_underlying hu,ir hb,run_checkKey hK,hfk,lV hb,O3 hi]
 |some j=>
  rw[hi]at hfk;simp[execOp,resolve,invoke,builtin,hf.ev hx,hf.ev hy,Builtin.delete_,hts,run_underlying hu,ir hb,run_checkKey hK,hfk,lV hb,ao8 j hi]
end
end Go.Sl
namespace Go.Sl
section
variable {P : Program} {n : Nat} {Q : Exit → Act → World → Prop} {l : List (Nat × Value)} {L : List ax} {d : Option Tmp} {ty : TypeId} {pos : String} {af : Array Edge} {g : Option (Nat × Bool)}
theorem pg [Env]{c:Operand}{x z:Code}(hc:ev l c=some (.bool true))(h1:Sc P n x Q l L):Sc P n (.cond c x z) Q l L:=
 fun a w hf hh=>wp_cond_true (hf.ev hc) (h1 a w hf hh)
theorem kN [Env]{c:Operand}{x z:Code}(hc:ev l c=some (.bool false))(h1:Sc P n z Q l L):Sc P n (.cond c x z) Q l L:=
 fun a w hf hh=>wp_cond_false (hf.ev hc) (h1 a w hf hh)
def zJ(l:List (Nat × Value)):List (Nat × Operand)→Option (List (Nat × Value))
 | []=>some []
 |(i,x)::xs=>match ev l x with
  |some v=>match zJ l xs with
   |some vs=>some ((i,v)::vs)
   |none=>none
  |none=>none
theorem wR{a:Act}(hf:Fr n l a): ∀{xs:List (Nat × Operand)} {vs:List (Nat × Value)},zJ l xs=some vs→xs.map (fun p=>(p.1,a.eval p.2))=vs
 | [],vs,h=>by simpa[zJ]using h
 |(i,x)::xs,vs,h=>by
  unfold zJ at h;split at h
  ·rename_i v hv
   split at h
   ·rename_i us hus
    cases h;simp[hf.ev hv,wR hf hus]
   ·cases h
  ·cases h
def aY:Value→List Value
 | .agg us=>us.toList
 |v=>[v]
theorem MI(v:Value):v.cells=(aY v).toArray:=by cases v<;>simp[Value.cells,aY]
def aX(z us:List Value)(o:Nat):List Value:=z.take o++us++z.drop (o+us.length)
def bt(pl:List (Nat × Nat)):List Value→List (Nat × Value)→List Value
 |z,[]=>z
 |z,(i,v)::r=>bt pl (aX z (aY v) ((pl[i]?).getD (0,0)).1) r
def py(pl:List (Nat × Nat)):Nat→List (Nat × Value)→Prop
 |_,[]=>True
 |m,(i,v)::r=>(∃o k,pl[i]? =some (o,k)∧(aY v).length=k∧o+k≤m)∧py pl m r
theorem sK: ∀(us:List Value) (k o:Nat) (cs:Array Value),o+k+us.length≤cs.size→
  ((us.zipIdx k).foldl (fun cs (x:Value × Nat)=>cs.setIfInBounds (o+x.2) x.1) cs)=(aX cs.toList us (o+k)).toArray
 | [],k,o,cs,_=>by simp[aX]
 |u::us,k,o,cs,h=>by
  have ih:=sK us (k+1) o (cs.setIfInBounds (o+k) u) (by simp at h ⊢;omega);simp only[List.zipIdx_cons,List.foldl_cons,ih];congr 1;have e:=list_seg_step cs.toList (o+k) u us (by simp at h ⊢;omega);unfold aX;simp only[Array.toList_setIfInBounds,List.length_cons];simpa[Nat.add_assoc]using e
theorem Ak(z us:List Value)(o:Nat)(h:o+us.length≤z.length):(aX z us o).length=z.length:=by
 simp[aX];omega
theorem fill_eq(place:Nat→Option (Nat × Nat))(pl:List (Nat × Nat))(Gh: ∀i o k,pl[i]? =some (o,k)→place i=some (o,k)):
  ∀(ps:List (Nat × Value)) (cells:Array Value),py pl cells.size ps→Instr.fill place cells ps=some (bt pl cells.toList ps).toArray
 | [],cells,_=>by simp[Instr.fill,bt]
 |(i,v)::r,cells,h=>by
  obtain⟨⟨o,k,hi,hk,hle⟩,hr⟩:=h;have hv:=MI v;have hs:v.cells.size=k:=by rw[hv];simpa using hk
  have h1: ¬((v.cells.size !=k||decide (o+v.cells.size>cells.size))=true):=by
   simp[hs];omega
  have h2:v.cells.zipIdx.foldl (fun cs (x:Value × Nat)=>cs.setIfInBounds (o+x.2) x.1) cells=(aX cells.toList (aY v) o).toArray:=by
   have:=sK (aY v) 0 o cells (by omega);simp only[Nat.add_zero]at this;rw[←this,hv,←Array.foldl_toList];simp
  have ih:=fill_eq place pl Gh r (aX cells.toList (aY v) o).toArray (by
   have:(aX cells.toList (aY v) o).toArray.size=cells.size:=by simp[Ak _ _ _ (show o+(aY v).length≤cells.toList.length by simp;omega)]
   rw[this];exact hr)
  simp only[Instr.fill,Gh i o k hi];rw[if_neg (by simpa using h1)];rw[h2,ih];simp[bt,hi]
inductive qV(P:Program):List Field→List (Nat × Nat)→Prop
 |nil:qV P [] []
 |cons {f:Field} {fs:List Field} {k:Nat} {pl:List (Nat × Nat)} (hs: ∀w,(sizeOf f.type).run P w= .ok k w) (h:qV P fs pl):qV P (f::fs) ((f.offset,k)::pl)
theorem qV.run{fs:List Field}{pl:List (Nat × Nat)}(h:qV P fs pl)(w:World):(fs.mapM fun f=>do pure (f.offset,←sizeOf f.type):Sem (List (Nat × Nat))).run P w= .ok pl w:=by
 induction h with
 |nil=>simp
 |cons hs _ ih=>simp only[List.mapM_cons,Sem.run_bind,hs,Result.andThen_ok,Sem.run_pure,ih]
theorem jB [Env]{t:TypeId}{parts:List (Nat × Operand)}{ps:List (Nat × Value)}{fs:Array Field}{zv:Value}{zs vs:List Value}{pl:List (Nat × Nat)}(hp:zJ l parts=some ps)(hu:P.underlying t=some (.struct fs))
  (hz: ∀w,(zeroValue t).run P w= .ok zv w) (LI:zv.cells=zs.toArray) (Gh:qV P fs.toList pl)
  (cq:py pl zs.length ps) (hv:bt pl zs ps=vs):
  Ev P n ⟨d,.build t parts.toArray,ty,pos,af,g⟩ l L (.agg vs.toArray):=
 fun a w hf _=>by
  have h1:=wR hf hp;have h2:=fill_eq (fun i=>pl.toArray[i]?) pl (fun i o k h=>by simpa using h) ps zs.toArray (by simpa using cq);have h3:(parts.toArray.map fun(x:Nat × Operand)=>(x.1,a.eval x.2))=ps.toArray:=by simp[←h1]
  have h6:(fs.mapM fun f=>do pure (f.offset,←sizeOf f.type):Sem (Array (Nat × Nat))).run P w= .ok pl.toArray w:=by
   rw[Array.mapM_eq_mapM_toList];simp only[Sem.run_map,Gh.run,Result.andThen_ok]
  have h4:(Instr.build t ps.toArray).run P w= .ok (.agg vs.toArray) w:=by
   simp only[Instr.build,Sem.run_bind,hz,run_underlying hu,Result.andThen_ok,LI,h6];have h5:Instr.fill (fun x=>pl.toArray[x]?) zs.toArray ps.toArray.toList=some vs.toArray:=by rw[←hv];exact h2
   rw[h5];rfl
  simp only[execOp,Sem.run_bind];rw[show(parts.toArray.map fun(x:Nat × Operand)=>match x with|(i,x)=>(i,a.eval x))=ps.toArray from h3,h4];rfl
theorem AD [Env]{t e m s:Nat}{parts:List (Nat × Operand)}{ps:List (Nat × Value)}{zv:Value}{zs vs:List Value}(hp:zJ l parts=some ps)(hu:P.underlying t=some (.array m e))
  (hz: ∀w,(zeroValue t).run P w= .ok zv w) (LI:zv.cells=zs.toArray) (hs: ∀w,(sizeOf e).run P w= .ok s w)
  (cq:py ((List.range m).map fun i=>(i*s,s)) zs.length ps) (hv:bt ((List.range m).map fun i=>(i*s,s)) zs ps=vs):
  Ev P n ⟨d,.build t parts.toArray,ty,pos,af,g⟩ l L (.agg vs.toArray):=
 fun a w hf _=>by
  have h1:=wR hf hp
  have h2:=fill_eq (fun i=>some (i*s,s)) ((List.range m).map fun i=>(i*s,s)) (fun i o k h=>by
   simp[List.getElem?_range]at h;obtain⟨_,h1,h2,h3⟩:=h;obtain⟨_,rfl⟩:=List.getElem?_eq_some_iff.1 h1;simp at h2;rw[←h2,←h3]) ps zs.toArray (by simpa using cq)
  have h3:(parts.toArray.map fun(x:Nat × Operand)=>(x.1,a.eval x.2))=ps.toArray:=by simp[←h1]
  have h4:(Instr.build t ps.toArray).run P w= .ok (.agg vs.toArray) w:=by
   simp only[Instr.build,Sem.run_bind,hz,run_underlying hu,Result.andThen_ok,LI,hs];have h5:Instr.fill (fun i=>some (i*s,s)) zs.toArray ps.toArray.toList=some vs.toArray:=by rw[←hv];exact h2
   rw[h5];rfl
  simp only[execOp,Sem.run_bind];rw[show(parts.toArray.map fun(x:Nat × Operand)=>match x with|(i,x)=>(i,a.eval x))=ps.toArray from h3,h4];rfl
theorem Kr [Env]{t e:TypeId}{m s:Nat}{parts:List (Nat × Operand)}{ps:List (Nat × Value)}{zv:Value}{zs vs:List Value}(hp:zJ l parts=some ps)
    (hu:P.underlying t=some (.slice e)) (hs: ∀w,(sizeOf e).run P w= .ok s w) (hz: ∀w,(zeroValue e).run P w= .ok zv w) (zU:Nat.ble (m*s) 16777216=true) (LC:Nat.blt 0 (m*s)=true)
    (LI:((Array.range (m*s)).map (zv.cells[· % zv.cells.size]!))=zs.toArray)
    (cq:py ((List.range m).map fun i=>(i*s,s)) zs.length ps) (hv:bt ((List.range m).map fun i=>(i*s,s)) zs ps=vs):
    Ac P n ⟨d,.buildSlice t m parts.toArray,ty,pos,af,g⟩ l L (KSl e m vs L):=by
  intro a w hf hh;have h0: ¬(m*s>2^24):=by have:=Nat.le_of_ble_eq_true zU;omega
  have h1 : ¬ (m * s = 0) := by have:0<m*s:=by simpa using LC
                                omega
  have hm:=wR hf hp
  have h2:=fill_eq (fun i=>some (i*s,s)) ((List.range m).map fun i=>(i*s,s)) (fun i o k h=>by
      simp[List.getElem?_range]at h;obtain⟨_,h1,h2,h3⟩:=h;obtain⟨_,rfl⟩:=List.getElem?_eq_some_iff.1 h1;simp at h2;rw[←h2,←h3]) ps zs.toArray (by simpa using cq)
  have h3:(parts.toArray.map fun(x:Nat × Operand)=>(x.1,a.eval x.2))=ps.toArray:=by simp[←hm]
  have h5:Instr.fill (fun i=>some (i*s,s)) zs.toArray ps.toArray.toList=some vs.toArray:=by rw[←hv];exact h2
  have h4:(Instr.buildSlice t m ps.toArray).run P w= .ok (.slice (some ⟨w.heap.size,0,none⟩) m m) (w.alloc (.cells vs.toArray e)):=by
    simp only[Instr.buildSlice,Sem.run_bind,run_underlying hu,Result.andThen_ok,hs,h0,h1,if_false,hz,Sem.run_pure,LI,h5,newRow,run_newObj,World.alloc_eq]
  refine⟨_,_,_,.inl ?_,⟨w.heap.size,rfl,rfl⟩,hh.alloc (.cells vs.toArray e)⟩;simp only[execOp,Sem.run_bind];rw[show(parts.toArray.map fun(x:Nat × Operand)=>match x with|(i,x)=>(i,a.eval x))=ps.toArray from h3,h4];rfl
def av(bs:List UInt8):List Value:=bs.map fun b=> .int .u8 b.toNat
theorem cL(bs:List UInt8): ∀u∈av bs,u.oneCell'=true:=by
 intro u hu;obtain⟨b,_,rfl⟩:=List.mem_map.1 hu;rfl
@[simp] theorem gP(bs:List UInt8):(av bs).length=bs.length:=by simp[av]
theorem KU [Env]{t u e:TypeId}{x:Operand}{m c:Nat}(hx:ev l x=some (.slice none m c))
  (ht:P.underlying t=some (.slice e)) (hu:P.underlying u=some .string) (he:P.underlying e=some (.int .u8)):Ev P n ⟨d,.convert t u x,ty,pos,af,g⟩ l L (.string ⟨#[]⟩):=by
 intro a w hf _;simp[execOp,hf.ev hx,convert,run_underlying ht,run_underlying hu,run_underlying he,Conv.bytesToString];rfl
end
end Go.Sl
namespace Go.Sl
section
variable {P : Program} {n : Nat} {Q : Exit → Act → World → Prop} {l : List (Nat × Value)} {L : List ax} {d : Option Tmp} {ty : TypeId} {pos : String} {af : Array Edge} {g : Option (Nat × Bool)}
def bS(m:Nat)(zs:List Value):List Value:=(List.replicate m zs).flatten
@[simp] theorem W8(m:Nat)(zs:List Value):(bS m zs).length=m*zs.length:=by
 induction m with
 |zero=>simp[bS]
 |succ m ih=>simp only[bS,List.replicate_succ,List.flatten_cons,List.length_append]at ih ⊢;rw[ih,Nat.add_mul];omega
theorem FC(zs:List Value)(h:0<zs.length): ∀(m i:Nat),i<m*zs.length→(bS m zs)[i]? =zs[i % zs.length]?
 |0,i,hi=>by simp at hi
 |m+1,i,hi=>by
  have e:bS (m+1) zs=zs++bS m zs:=by simp[bS,List.replicate_succ]
  rw[e,List.getElem?_append];split
  ·rename_i EH;rw[Nat.mod_eq_of_lt EH]
  ·rename_i hge
   have apb:zs.length≤i:=by omega
   rw[FC zs h m (i-zs.length) (by rw[Nat.add_mul]at hi;omega)];rw[Nat.mod_eq_sub_mod apb]
theorem rG(m:Nat)(zs:List Value)(h:0<zs.length):(Array.range (m*zs.length)).map (fun i=>zs.toArray[i % zs.toArray.size]!)=(bS m zs).toArray:=by
 apply Array.ext_getElem?;intro i
 by_cases hi:i<m*zs.length
 ·have h2:i % zs.length<zs.length:=Nat.mod_lt _ h;have h3:=FC zs h m i hi;rw[List.getElem?_eq_getElem h2]at h3;obtain⟨_,h4⟩:=List.getElem?_eq_some_iff.1 h3;simp[hi,h2,h4]
 ·have:(bS m zs).toArray[i]? =none:=by simp;omega
  rw[this];simp;omega
theorem wr{x:Int}(h0: -9223372036854775808≤x)(h1:x≤9223372036854775807):IntKind.i64.wrap x=x:=IntWalk.i64_in x ⟨h0,h1⟩
theorem SX [Env]{t e:TypeId}{x z:Operand}{m k:Nat}{i:TypeInfo}{zv:Value}{zs:List Value}(hx:ev l x=some (.int .i64 m))(hz:ev l z=some (.int .i64 m))(hu:P.underlying t=some (.slice e))(hi: ∀w,(typeInfo e).run P w= .ok i w)
  (vD: ∀w,(sizeOf e).run P w= .ok k w) (hzv: ∀w,(zeroValue e).run P w= .ok zv w) (LI:zv.cells=zs.toArray) (hk:k=zs.length) (LC:0<k) (hm:m<2^40) (zU:i.bytes*m≤2^48):
  Ac P n ⟨d,.makeSlice t x z,ty,pos,af,g⟩ l L (fun v L'=> ∃b,v= .slice (some ⟨b,0,none⟩) m m∧L'=sc b (bS m zs) e::L):=by
 intro a w hf hh;subst hk;have hw:IntKind.i64.wrap (m:Int)=(m:Int):=wr (by omega) (by omega);have hmc:=rG m zs LC
 have B5: ¬((i.bytes:Int)*(m:Int)>2^48):=by
  have:((i.bytes*m:Nat):Int)≤((2^48:Nat):Int):=Int.ofNat_le.2 zU;simpa using this
 have T2: ¬((m:Int)<0):=by omega
 refine⟨_,_,_,.inl ?_,⟨w.heap.size,rfl,rfl⟩,hh.alloc (.cells (bS m zs).toArray e)⟩;have Lo: ¬(281474976710656<(i.bytes:Int)*(m:Int)):=by omega
 by_cases hmz:m*zs.length=0
 ·have hr:bS m zs=[]:=List.eq_nil_of_length_eq_zero (by simpa using hmz);have:Array.range 0= #[]:=Array.eq_empty_of_size_eq_zero (by simp);simp only[execOp,Instr.makeSlice,hf.ev hx,hf.ev hz,asInt,asIntOf,Sem.run_bind,run_underlying hu,Result.andThen_ok,hi,vD,pure_bind,Sem.run_pure,hw,newRow,hr];simp[T2,Lo,vD,hmz,this]
 ·simp only[execOp,Instr.makeSlice,hf.ev hx,hf.ev hz,asInt,asIntOf,Sem.run_bind,run_underlying hu,Result.andThen_ok,hi,vD,pure_bind,Sem.run_pure,hw,newRow];have agl:=hmc;simp only[List.size_toArray]at agl;rw[←agl]
  have apu: ¬(m=0∨zs=[]):=by
   rintro(h|h)
   · exact hmz (by simp[h])
   · exact hmz (by simp[h])
  simp[T2,Lo,vD,apu,hzv,LI];exact fun h=>absurd h hmz
theorem DY [Env]{T K E:TypeId}{x y:Operand}{b c:Nat}{kv:Kv}{k:Int}{z v:Value}(hg:ij kv k=some v)(hx:ev l x=some (.map (some b)))(hy:ev l y=some (.int .i64 k))(hu:P.underlying T=some (.map K E))(hK:P.underlying K=some (.int .i64))
  (hz: ∀w,(zeroValue E).run P w= .ok z w) (hi:In L (so b (.map (cH kv) c))):
  Ev P n ⟨d,.lookup T x y true,ty,pos,af,g⟩ l L (.tuple [v,.bool true].toArray):=by
 have:=ic (n:=n) (d:=d) (ty:=ty) (pos:=pos) (af:=af) (g:=g) hx hy hu hK hz hi;rw[hg]at this;exact this
theorem DX [Env]{T K E:TypeId}{x y:Operand}{b c:Nat}{kv:Kv}{k:Int}{z:Value}(hg:ij kv k=none)(hx:ev l x=some (.map (some b)))(hy:ev l y=some (.int .i64 k))(hu:P.underlying T=some (.map K E))(hK:P.underlying K=some (.int .i64))
  (hz: ∀w,(zeroValue E).run P w= .ok z w) (hi:In L (so b (.map (cH kv) c))):
  Ev P n ⟨d,.lookup T x y true,ty,pos,af,g⟩ l L (.tuple [z,.bool false].toArray):=by
 have:=ic (n:=n) (d:=d) (ty:=ty) (pos:=pos) (af:=af) (g:=g) hx hy hu hK hz hi;rw[hg]at this;exact this
theorem G3 [Env]{T K E:TypeId}{x y:Operand}{b c:Nat}{kv:Kv}{k:Int}{z v:Value}(hg:ij kv k=some v)(hx:ev l x=some (.map (some b)))(hy:ev l y=some (.int .i64 k))(hu:P.underlying T=some (.map K E))(hK:P.underlying K=some (.int .i64))
  (hz: ∀w,(zeroValue E).run P w= .ok z w) (hi:In L (so b (.map (cH kv) c))):
  Ev P n ⟨d,.lookup T x y false,ty,pos,af,g⟩ l L v:=by
 have:=qb (n:=n) (d:=d) (ty:=ty) (pos:=pos) (af:=af) (g:=g) hx hy hu hK hz hi;rw[hg]at this;exact this
theorem ai [Env]{t:TypeId}{x z:Operand}{b k:Nat}{vs us:List Value}{T:TypeId}{L':List ax}(hx:ev l x=some (.pointer (some ⟨b,0,none⟩)))(hz:ev l z=some (.agg us.toArray))
  (h1: ∀u∈us,u.oneCell'=true) (hs: ∀w,(sizeOf t).run P w= .ok k w) (r:Rp L (sc b vs T) (sc b us T) L') (hk:us.length=k) (hv:vs.length=k):
  Ac P n ⟨d,.store t x z,ty,pos,af,g⟩ l L (KTo L'):=
 aP hx hz h1 hs r hk (by omega) (by simp;omega)
theorem zu(zs:List Value)(m:Nat)(h:0<zs.length):(Builtin.zeroCells zs.toArray m).toList=bS m zs:=by
 unfold Builtin.zeroCells;have:=rG m zs h;simp only[List.size_toArray]at this;simp only[List.size_toArray,this]
theorem IN{t e:TypeId}(a:Option Addr)(p c:Nat)(hu:P.underlying t=some (.slice e))(w:World):(binOp .eql t (.slice a p c) (.slice none 0 0)).run P w= .ok (.bool a.isNone) w:=
 Lib.run_eql_slice_nil w t e a p c 0 0 hu
theorem lO [Env]{t t' e:TypeId}{x z:Operand}{a:Option Addr}{p c:Nat}(hx:ev l x=some (.slice a p c))(hz:ev l z=some (.slice none 0 0))(hu:P.underlying t=some (.slice e)):
  Ev P n ⟨d,.binOp .eql t x z t',ty,pos,af,g⟩ l L (.bool a.isNone):=
 fun b w hf _=>by simp[execOp,hf.ev hx,hf.ev hz,eqGuard,IN a p c hu]
theorem jh [Env]{t e s:TypeId}(hu:P.underlying t=some (.slice e))(hs: ∀w,(sizeOf e).run P w= .ok s w):
  Ac P n ⟨d,.buildSlice t 0 #[],ty,pos,af,g⟩ l L (fun v L'=> ∃b,v=aG (some (b,0,[])) 0∧L'=aD (some (b,0,[])) e []::L):=by
 intro a w hf hh;refine⟨_,_,_,.inl ?_,⟨w.heap.size,rfl,rfl⟩,hh.alloc (.cells #[] e)⟩;have:Array.range 0= #[]:=Array.eq_empty_of_size_eq_zero (by simp);simp[execOp,Instr.buildSlice,run_underlying hu,hs,Instr.fill,newRow,aG];rw[this,Array.map_empty]
def stamped(kv:Kv)(c:Nat):Prop:=(∀x∈kv,x.2.2<c)∧(kv.map (·.2.2)).Nodup
def left(kv:Kv)(seen:List Nat):Kv:=kv.filter fun x=> !seen.contains x.2.2
theorem Dw [Env]{T K E:TypeId}{x:Operand}{b c:Nat}{kv:Kv}(hx:ev l x=some (.map (some b)))(hu:P.underlying T=some (.map K E))(hi:In L (so b (.map (cH kv) c))):
  Ac P n ⟨d,.range T x,ty,pos,af,g⟩ l L (fun v L'=> ∃i,v= .pointer (some ⟨i,0,none⟩)∧L'=so i (.mapIter (some b) c #[] c)::L):=by
 intro a w hf hh;refine⟨_,_,_,.inl ?_,⟨w.heap.size,rfl,rfl⟩,hh.alloc (.mapIter (some b) c #[] c)⟩;simp[execOp,Instr.range,hf.ev hx,run_underlying hu,ir (hh.obj hi)]
theorem vS{w:World}{b:Nat}{m:Option Nat}{s t:Nat}{q:Array Nat}(h:w.heap[b]? =some (.mapIter m s q t)):(getObj b).run P w= .ok (.mapIter m s q t) w:=by
 simp[getObj,Sem.run,h]
theorem FF{w:World}{b:Nat}{m:Option Nat}{s t:Nat}{q:Array Nat}{o:Obj}(h:w.heap[b]? =some (.mapIter m s q t)):(setObj b o).run P w= .ok () (oz w b o):=by
 simp[setObj,Sem.run,h,oz]
def VY(kv:Kv)(seen:List Nat)(L:List ax)(Lx:Int × Value × Nat→List ax)(v:Value)(L':List ax):Prop:=
 (left kv seen=[]∧v= .tuple [.bool false].toArray∧L'=L)∨
 (∃x,x∈left kv seen∧v= .tuple [.bool true,.int .i64 x.1,x.2.1].toArray∧L'=Lx x)
theorem LO(kv:Kv)(seen:List Nat):((cH kv).filter fun e=> !seen.toArray.contains e.born)=cH (left kv seen):=by
 unfold cH left;rw[←Array.toList_inj];simp[List.filter_map];congr 1
theorem Ja [Env]{x:Operand}{b c i:Nat}{kv:Kv}{seen:List Nat}(hx:ev l x=some (.pointer (some ⟨i,0,none⟩)))(hii:In L (so i (.mapIter (some b) c seen.toArray c)))(hi:In L (so b (.map (cH kv) c)))(gw:stamped kv c)
  {Lx:Int × Value × Nat→List ax} (hr: ∀x,Rp L (so i (.mapIter (some b) c seen.toArray c)) (so i (.mapIter (some b) c (seen++[x.2.2]).toArray c)) (Lx x)):
  Ac P n ⟨d,.next x false,ty,pos,af,g⟩ l L (VY kv seen L Lx):=by
 intro a w hf hh;have hI:=hh.obj hii;have hM:=hh.obj hi
 have lQ: ¬((!seen.toArray.isEmpty&& !(cH kv).isEmpty&&(cH kv).all fun e=>decide (e.born≥c))=true):=by
  intro h;simp only[Bool.and_eq_true,Bool.not_eq_true',Array.all_eq_true_iff_forall_mem]at h;obtain⟨⟨_,h2⟩,h3⟩:=h;cases kv with
  |nil=>simp[cH]at h2
  |cons y kv=>
   have:=h3 (uz y) (by simp[cH]);have h4:=gw.1 y (by simp);simp[uz]at this;omega
 have hold:((cH (left kv seen)).filter fun e=>decide (e.born<c))=cH (left kv seen):=by
  rw[Array.filter_eq_self];intro e he;simp only[cH,List.mem_toArray,List.mem_map]at he;obtain⟨y,hy,rfl⟩:=he;exact decide_eq_true (gw.1 y ((List.mem_filter.1 hy).1))
 have Zv:((cH (left kv seen)).filter fun e=>decide (e.born≥c))= #[]:=by
  rw[Array.filter_eq_empty_iff];intro e he;simp only[cH,List.mem_toArray,List.mem_map]at he;obtain⟨y,hy,rfl⟩:=he;have:=gw.1 y ((List.mem_filter.1 hy).1);simp[uz];omega
 simp only[execOp,hf.ev hx,Instr.next,Sem.run_bind,vS hI,Result.andThen_ok,ir hM];rw[if_neg lQ];simp only[Sem.run_bind,Sem.run_pure,Result.andThen_ok,LO,hold,Zv,Array.append_empty];cases hl:left kv seen with
 |nil=>
  refine⟨.tuple [.bool false].toArray,w,L,.inl ?_,.inl ⟨hl,rfl,rfl⟩,hh⟩;simp[cH,Question.forced]
 |cons y ys=>
  have xY:(cH (y::ys)).isEmpty=false:=by simp[cH]
  simp only[xY,if_false,Bool.false_eq_true,Array.empty_append,Array.size_map]
  -- which one
  have vD:(cH (y::ys)).size=ys.length+1:=by simp[cH]
  have pick: ∀(k:Nat) (w':World),k<ys.length+1→w'.heap=w.heap→(Dl w→Dl w')→ ∃v w'' L',((do
      match ((cH (y::ys)).map some)[k]? with
      |some (some e)=>do
       setObj i (.mapIter (some b) c (seen.toArray.push e.born) c)
       pure (.tuple #[.bool true,e.key,e.val])
      |some none=>pure (.tuple #[.bool false])
      | none => stuck "Next: no such candidate" : Sem Value).run P w') = .ok v w'' ∧ VY kv seen L Lx v L' ∧ Has w'' L' := by
   intro k w' hk JH Ch;have hI':w'.heap[i]? =some (.mapIter (some b) c seen.toArray c):=by rw[JH];exact hI
   have hg:(y::ys)[k]? =some ((y::ys)[k]'(by simpa using hk)):=List.getElem?_eq_getElem (by simpa using hk)
   generalize hz:(y::ys)[k]'(by simpa using hk)=z at hg;have apq:z∈left kv seen:=by rw[hl,←hz];exact List.getElem_mem _
   refine⟨.tuple [.bool true,.int .i64 z.1,z.2.1].toArray,oz w' i (.mapIter (some b) c (seen++[z.2.2]).toArray c),Lx z,?_,.inr ⟨z,apq,rfl,rfl⟩,(hh.of_heap JH Ch).oz (hr z)⟩
   have e1:((cH (y::ys)).map some)[k]? =some (some (uz z)):=by
    rw[Array.getElem?_map]
    have:(cH (y::ys))[k]? =some (uz z):=by
     show((y::ys).map uz).toArray[k]? =_;rw[List.getElem?_toArray,List.getElem?_map,hg];rfl
    rw[this];rfl
   simp only[e1,Sem.run_bind,FF hI',Result.andThen_ok,Sem.run_pure];simp[uz]
  by_cases uH:(Question.mapNext (cH (y::ys)).size).forced=true
  ·obtain⟨v,w'',L',h1,h2,h3⟩:=pick 0 w (by omega) rfl id;refine⟨v,w'',L',.inl ?_,h2,h3⟩;simp only[run_choose,uH,if_true,Result.andThen_ok];exact congrArg (fun r=>Result.andThen r _) h1
  ·have Y9:(Question.mapNext (cH (y::ys)).size).cut (w.tape w.drawn (.mapNext (cH (y::ys)).size))<ys.length+1:=by
    simp only[Question.cut,vD];exact Nat.mod_lt _ (by omega)
   obtain⟨v,w'',L',h1,h2,h3⟩:=pick _ {w with drawn:=w.drawn+1} Y9 rfl id;refine⟨v,w'',L',.inl ?_,h2,h3⟩;simp only[run_choose,uH,Bool.false_eq_true,if_false,Result.andThen_ok];exact congrArg (fun r=>Result.andThen r _) h1
theorem JQ{kv:Kv}{seen:List Nat}{x:Int × Value × Nat}(hx:x∈left kv seen):(left kv (seen++[x.2.2])).length<(left kv seen).length:=by
 have h1:left kv (seen++[x.2.2])=(left kv seen).filter fun y=> !(y.2.2==x.2.2):=by
  unfold left;rw[List.filter_filter];apply List.filter_congr;intro y _
  by_cases h:y.2.2=x.2.2<;>simp[h]
 rw[h1]
 have: ∀(q:Kv),x∈q→(q.filter fun y=> !(y.2.2==x.2.2)).length<q.length:=by
  intro q
  induction q with
  |nil=>intro h;cases h
  |cons z q ih=>
   intro h;have hle:=List.length_filter_le (fun y:Int × Value × Nat=> !(y.2.2==x.2.2)) q
   by_cases e:z.2.2=x.2.2
   ·rw[List.filter_cons_of_neg (by simp[e])];simp only[List.length_cons];omega
   ·rcases List.mem_cons.1 h with h|h
    ·subst h;exact absurd rfl e
    ·have:=ih h;rw[List.filter_cons_of_pos (by simpa using e)];simp only[List.length_cons];omega
 exact this _ hx
theorem yl{kv:Kv}{seen:List Nat}{x:Int × Value × Nat}(hx:x∈left kv seen):x∈kv:=(List.mem_filter.1 hx).1
theorem DV [Env]{x:Operand}{b c i:Nat}{kv:Kv}{seen:List Nat}{y:Int × Value × Nat}(hx:ev l x=some (.pointer (some ⟨i,0,none⟩)))(hii:In L (so i (.mapIter (some b) c (seen++[y.2.2]).toArray c)))(hi:In L (so b (.map (cH kv) c)))(gw:stamped kv c)(hy:y∈kv):
  Ev P n ⟨d,.entry x,ty,pos,af,g⟩ l L (.tuple [.int .i64 y.1,y.2.1].toArray):=by
 intro a w hf hh;have hI:=hh.obj hii;have hM:=hh.obj hi
 have af6:(cH kv).find? (fun e=>e.born==y.2.2)=some (uz y):=by
  have: ∀(q:Kv),(q.map (·.2.2)).Nodup→y∈q→(q.map uz).find? (fun e=>e.born==y.2.2)=some (uz y):=by
   intro q
   induction q with
   |nil=>intro _ h;cases h
   |cons z q ih=>
    intro hn h
    by_cases e:z.2.2=y.2.2
    ·have hzy:z=y:=by
      rcases List.mem_cons.1 h with h|h
      · exact h.symm
      · exact absurd (List.mem_map.2 ⟨y,h,e.symm⟩) (List.nodup_cons.1 hn).1
     subst hzy;simp[uz]
    ·have hm:y∈q:=by
      rcases List.mem_cons.1 h with h|h
      · subst h;exact absurd rfl e
      · exact h
     have:=ih (List.nodup_cons.1 hn).2 hm;simp only[List.map_cons,List.find?_cons];rw[show((uz z).born==y.2.2)=false by simpa[uz]using e];exact this
  simpa[cH]using this kv gw.2 hy
 simp[execOp,hf.ev hx,Instr.entry,vS hI,ir hM,af6];simp[uz]
end
end Go.Sl
/- The model of a device: raw, as it lies; plain Lean. -/
namespace Go.Sl
abbrev Bytes:=List UInt8
def g8:Bytes:=List.replicate 144 0
@[simp] theorem Xg:g8.length=144:=by simp[g8]
def pad(bs:Bytes):Bytes:=bs++List.replicate (144-bs.length) 0
theorem ID{bs:Bytes}(h:bs.length≤144):(pad bs).length=144:=by simp[pad];omega
abbrev Es:=List (Int × Bytes × Nat)
def sY(es:Es):Kv:=es.map fun x=>(x.1,.agg (av x.2.1).toArray,x.2.2)
def ix(es:Es)(k:Int):Option Bytes:=(es.find? (fun x=>decide (x.1=k))).map (·.2.1)
def zI(es:Es)(k:Int)(s:Bytes):Es:=es.map fun x=>if x.1=k then(k,s,x.2.2)else x
def we(es:Es)(k:Int):Bool:=es.any fun x=>decide (x.1=k)
def xD(es:Es)(c:Nat)(k:Int)(s:Bytes):Es:=if we es k then zI es k s else es++[(k,s,c)]
def GZ(es:Es)(c:Nat)(k:Int):Nat:=if we es k then c else c+1
structure az where
 l:List Bytes
 es:Es
 wN:Nat
 dead:Bool
 dA:Int
structure az.ok(D:az):Prop where
 n:D.l.length≤512
 sec: ∀s∈D.l,s.length=144
 xE: ∀x∈D.es,x.2.1.length=144
 keys: ∀x∈D.es,0≤x.1∧x.1<D.l.length
 uniq:(D.es.map (·.1)).Nodup
 born: ∀x∈D.es,x.2.2<D.wN
 once:(D.es.map (·.2.2)).Nodup
 dA: -1≤D.dA∧D.dA≤9223372036854775807
def az.act(D:az):Int × az:=if D.dA=0 then(30,{D with dead:=true})else(0,if 0<D.dA then{D with dA:=IntKind.i64.wrap (D.dA- 1)}else D)
def az.has(D:az)(i:Int):Int:=if D.dead=true then 30 else if i<0∨(D.l.length:Int)≤i then 2 else 0
def az.write(D:az)(i:Int)(bs:Bytes):Int × az:=
 if D.has i≠0 then(D.has i,D)else if(144:Int)<bs.length then(3,D)else if D.act.1≠0 then D.act else
 (0,{D.act.2 with es:=xD D.act.2.es D.act.2.wN i (pad bs),wN:=GZ D.act.2.es D.act.2.wN i})
def eQ(es:Es)(l:List Bytes):List Bytes:=es.foldl (fun l x=>l.set x.1.toNat x.2.1) l
def az.aJ(D:az):Int × az:=
 if D.dead=true then(30,D)else if D.act.1≠0 then D.act else(0,{D.act.2 with l:=eQ D.act.2.es D.act.2.l,es:=[]})
def az.sec(D:az)(i:Int):Bytes:=(ix D.es i).getD ((D.l[i.toNat]?).getD g8)
def az.up(D:az):az:={D with es:=[],dead:=false,dA:= -1}
def az.gZ(D:az)(n:Int):az:={D with dA:=if-1>n then-1 else n}
def az.new(n:Nat):az:=⟨List.replicate n g8,[],0,false,-1⟩
@[simp] theorem Jb{D:az}:D.act.2.l=D.l:=by unfold az.act;split<;>(try split)<;>rfl
@[simp] theorem am7{D:az}:D.act.2.es=D.es:=by unfold az.act;split<;>(try split)<;>rfl
@[simp] theorem am2{D:az}:D.act.2.wN=D.wN:=by unfold az.act;split<;>(try split)<;>rfl
theorem NX{bs:Bytes}(h:bs.length≤144):(av g8).take 0++av (bs.take (min bs.length 144))++(av g8).drop (0+min bs.length 144)=av (pad bs):=by
 have:min bs.length 144=bs.length:=by omega
 rw[this];have e:av g8=List.replicate 144 (Value.int .u8 0):=by simp only[av,g8,List.map_replicate];rfl
 rw[e,List.drop_replicate];simp only[pad,av,List.map_append,List.map_replicate,List.take_length,List.take_zero,List.nil_append,Nat.zero_add];rfl
def flat(l:List Bytes):List Value:=(l.map av).flatten
theorem mj: ∀{l:List Bytes},(∀s∈l,s.length=144)→(flat l).length=l.length*144
 | [],_=>by simp[flat]
 |s::l,h=>by
  have ih:=mj (l:=l) (fun t ht=>h t (by simp[ht]));have hs:=h s (by simp);simp only[flat,List.map_cons,List.flatten_cons,List.length_append,gP,List.length_cons]at ih ⊢;omega
theorem xJ: ∀{l:List Bytes},(∀s∈l,s.length=144)→ ∀{i:Nat} {s:Bytes},l[i]? =some s→((flat l).drop (i*144)).take 144=av s
 | [],_,i,s,h=>by simp at h
 |t::l,h,i,s,hi=>by
  have ht:=h t (by simp);cases i with
  |zero=>
   simp at hi;subst hi;simp only[flat,List.map_cons,List.flatten_cons,Nat.zero_mul,List.drop_zero];rw[List.take_append_of_le_length (by simp[ht])];exact List.take_of_length_le (by simp[ht])
  |succ i=>
   have ih:=xJ (l:=l) (fun u hu=>h u (by simp[hu])) (i:=i) (s:=s) (by simpa using hi);simp only[flat,List.map_cons,List.flatten_cons]at ih ⊢;rw[List.drop_append,List.drop_eq_nil_of_le (by simp only[gP,ht];omega)];simp only[gP,List.nil_append,ht];rw[show(i+1)*144- 144=i*144 by omega];exact ih
theorem sJ: ∀{l:List Bytes},(∀s∈l,s.length=144)→ ∀{i:Nat} {s:Bytes},i<l.length→(flat l).take (i*144)++av s++(flat l).drop (i*144+144)=flat (l.set i s)
 | [],_,i,s,h=>by simp at h
 |t::l,h,i,s,hi=>by
  have ht:=h t (by simp);cases i with
  |zero=>
   simp only[flat,List.map_cons,List.flatten_cons,Nat.zero_mul,List.take_zero,List.nil_append,Nat.zero_add,List.set_cons_zero];rw[List.drop_append,List.drop_eq_nil_of_le (by simp[ht])];simp[ht]
  |succ i=>
   have ih:=sJ (l:=l) (fun u hu=>h u (by simp[hu])) (i:=i) (s:=s) (by simpa using hi);simp only[flat,List.map_cons,List.flatten_cons,List.set_cons_succ]at ih ⊢;rw[←ih,List.take_append,List.drop_append,List.drop_eq_nil_of_le (by simp only[gP,ht];omega),List.take_of_length_le (by simp only[gP,ht];omega)];simp only[gP,ht,List.nil_append,List.append_assoc];rw[show(i+1)*144- 144=i*144 by omega,show(i+1)*144+144- 144=i*144+144 by omega]
theorem KW(n:Nat):flat (List.replicate n g8)=bS n (av g8):=by simp[flat,bS]
theorem JO(es:Es)(k:Int):(sY es).any (fun x=>decide (x.1=k))=we es k:=by simp[sY,we,List.any_map,Function.comp_def]
theorem wV(es:Es)(c:Nat)(k:Int)(s:Bytes):oT (sY es) c k (.agg (av s).toArray)=sY (xD es c k s):=by
 unfold oT xD;rw[JO];split
 ·simp only[EZ,sY,zI,List.map_map];apply List.map_congr_left;intro x _;simp only[Function.comp];split<;>simp_all
 ·simp[sY]
theorem wU(es:Es)(c:Nat)(k:Int):Ab (sY es) c k=GZ es c k:=by unfold Ab GZ;rw[JO]
theorem Cs(es:Es)(k:Int):ij (sY es) k=(ix es k).map fun s=> .agg (av s).toArray:=by
 unfold ij ix sY;rw[List.find?_map];simp only[Function.comp_def,Option.map_map]
theorem EU{es:Es}(h:(es.map (·.1)).Nodup):uniq (sY es):=by
 unfold uniq sY;simpa[List.map_map,Function.comp_def]using h
theorem pJ{es:Es}{c:Nat}(h: ∀x∈es,x.2.2<c)(h':(es.map (·.2.2)).Nodup):stamped (sY es) c:=by
 refine⟨fun x hx=>?_,?_⟩
 · obtain⟨y,hy,rfl⟩:=List.mem_map.1 hx;exact h y hy
 · unfold sY;simpa[List.map_map,Function.comp_def]using h'
theorem Ux{D:az}(hD:D.ok){seen:List Nat}{x:Int × Value × Nat}(hx:x∈left (sY D.es) seen):
  ∃k s b,x=(k,.agg (av s).toArray,b)∧s.length=144∧0≤k∧k<D.l.length∧(k,s,b)∈D.es:=by
 obtain⟨y,hy,rfl⟩:=List.mem_map.1 (yl hx);exact⟨y.1,y.2.1,y.2.2,rfl,hD.xE y hy,(hD.keys y hy).1,(hD.keys y hy).2,hy⟩
theorem Pz(es:Es)(seen:List Nat):left (sY es) seen=sY (es.filter fun y=> !seen.contains y.2.2):=by
 unfold left sY;rw[List.filter_map];rfl
theorem FK{es:Es}{seen:List Nat}{ls:List Bytes}{r:List Bytes}(h:left (sY es) seen=[])(hs:eQ (es.filter fun y=> !seen.contains y.2.2) ls=r):ls=r:=by
 rw[Pz]at h;have:(es.filter fun y=> !seen.contains y.2.2)=[]:=by unfold sY at h;exact List.map_eq_nil_iff.1 h
 rw[this]at hs;exact hs
theorem jJ(x:Int × Bytes × Nat)(es:Es)(ls:List Bytes):eQ (x::es) ls=eQ es (ls.set x.1.toNat x.2.1):=rfl
@[simp] theorem y6: ∀(es:Es) (ls:List Bytes),(eQ es ls).length=ls.length
 | [],ls=>rfl
 |x::es,ls=>by rw[jJ,y6 es];simp
theorem vV: ∀{es:Es} {ls:List Bytes},(∀x∈es,x.2.1.length=144)→(∀s∈ls,s.length=144)→ ∀s∈eQ es ls,s.length=144
 | [],ls,_,h=>h
 |x::es,ls,he,h=>by
  rw[jJ];refine vV (fun y hy=>he y (by simp[hy])) ?_;intro t ht;rcases List.mem_or_eq_of_mem_set ht with h1|rfl
  · exact h t h1
  · exact he x (by simp)
@[simp] theorem am3:sY []=[]:=rfl
theorem tI{k:Int}{s:Bytes}{b:Nat}: ∀{es:Es},(es.map (·.1)).Nodup→(es.map (·.2.2)).Nodup→(∀y∈es,0≤y.1)→(k,s,b)∈es→ ∀(ls:List Bytes),eQ (es.filter fun y=> !(y.2.2==b)) (ls.set k.toNat s)=eQ es ls
 | [],_,_,_,h,_=>by cases h
 |y::es,hn,hb,hp,h,ls=>by
  have hn':=List.nodup_cons.1 hn;have hb':=List.nodup_cons.1 hb;rcases List.mem_cons.1 h with rfl|h
  ·have hf:(es.filter fun y=> !(y.2.2==b))=es:=by
    rw[List.filter_eq_self];intro z hz;have:z.2.2≠b:=fun e=>hb'.1 (List.mem_map.2 ⟨z,hz,e⟩)
    simpa using this
   rw[List.filter_cons_of_neg (by simp),hf];rfl
  ·have h1:y.2.2≠b:=fun e=>hb'.1 (List.mem_map.2 ⟨(k,s,b),h,e.symm⟩)
   have h2:y.1≠k:=fun e=>hn'.1 (List.mem_map.2 ⟨(k,s,b),h,e.symm⟩)
   rw[List.filter_cons_of_pos (by simpa using h1),jJ,jJ,List.set_comm]
   ·exact tI hn'.2 hb'.2 (fun z hz=>hp z (by simp[hz])) h _
   ·have:=hp y (by simp);have:=hp (k,s,b) (by simp[h]);simp only at this;omega
theorem D5(es:Es)(seen:List Nat)(b:Nat):(es.filter fun y=> !(seen++[b]).contains y.2.2)=(es.filter fun y=> !seen.contains y.2.2).filter fun y=> !(y.2.2==b):=by
 rw[List.filter_filter];apply List.filter_congr;intro y _
 by_cases h:y.2.2=b<;>simp[h]
theorem CY{D:az}(hD:D.ok){seen:List Nat}{k:Int}{s:Bytes}{b:Nat}{ls:List Bytes}{v:Value}(hx:(k,v,b)∈left (sY D.es) seen)(hm:(k,s,b)∈D.es){r:List Bytes}
  (h:eQ (D.es.filter fun y=> !seen.contains y.2.2) ls=r):eQ (D.es.filter fun y=> !(seen++[b]).contains y.2.2) (ls.set k.toNat s)=r:=by
 rw[←h,D5];have hb:(!seen.contains b)=true:=(List.mem_filter.1 hx).2;refine tI ?_ ?_ ?_ (List.mem_filter.2 ⟨hm,hb⟩) ls
 ·exact(List.filter_sublist.map _).nodup hD.uniq
 ·exact(List.filter_sublist.map _).nodup hD.once
 ·intro y hy;exact(hD.keys y (List.mem_filter.1 hy).1).1
theorem wY{ls:List Bytes}{m:Nat}(h: ∀s∈ls,s.length=m){i:Nat}{s:Bytes}(hs:s.length=m): ∀t∈ls.set i s,t.length=m:=by
 intro t ht;rcases List.mem_or_eq_of_mem_set ht with h1|rfl
 · exact h t h1
 · exact hs
theorem DT{es:Es}{k:Int}{s:Bytes}(h:ix es k=some s): ∃b,(k,s,b)∈es:=by
 unfold ix at h;obtain⟨x,hx,rfl⟩:=Option.map_eq_some_iff.1 h;have h1:=List.mem_of_find?_eq_some hx;have h2:=List.find?_some hx;have h3:x.1=k:=by simpa using h2
 subst h3;exact⟨_,h1⟩
theorem N8{D:az}(hD:D.ok){k:Int}{s:Bytes}(h:ix D.es k=some s):s.length=144:=by
 obtain⟨b,hb⟩:=DT h;exact hD.xE _ hb
theorem FJ{D:az}{i:Int}{s:Bytes}(h:ix D.es i=some s):D.sec i=s:=by simp[az.sec,h]
theorem Rx{D:az}{i:Int}{s:Bytes}(h:ix D.es i=none)(h2:D.l[i.toNat]? =some s):D.sec i=s:=by simp[az.sec,h,h2]
theorem jm{D:az}(hD:D.ok)(i:Int):(D.sec i).length=144:=by
 unfold az.sec;cases h:ix D.es i with
 |some s=>obtain⟨b,hb⟩:=DT h;exact hD.xE _ hb
 |none=>
  cases h2:D.l[i.toNat]? with
  |none=>simp
  |some s=>exact hD.sec s (List.mem_of_getElem? h2)
theorem Er{D:az}{i:Int}(h:D.has i=0):D.dead=false∧0≤i∧i<D.l.length:=by
 unfold az.has at h;split at h
 ·simp at h
 ·rename_i hd
  split at h
  ·simp at h
  ·rename_i h2
   exact⟨by simpa using hd,by omega,by omega⟩
theorem BF{l:List Bytes}{i:Int}(h0:0≤i)(h1:i<l.length): ∃s,l[i.toNat]? =some s:=
 ⟨_,List.getElem?_eq_getElem (by omega)⟩
def Da [Env](R:List ax)(v:Value)(bs:Bytes):Prop:=
 (v= .slice none 0 0∧bs=[])∨ ∃a c,v= .slice (some a) bs.length c∧ ∀w,Has w R→ ∀j (h:j<bs.length),w.cell? (a.add j)=some (.int .u8 bs[j].toNat)
theorem Da.mono [Env]{R R':List ax}{v:Value}{bs:Bytes}(h:Da R v bs)(hg:Ge R' R):Da R' v bs:=by
 rcases h with h|⟨a,c,h1,h2⟩
 · exact .inl h
 · exact .inr ⟨a,c,h1,fun w hh=>h2 w (hg.has hh)⟩
theorem CM [Env]{L:List ax}{b o m c:Nat}{vs:List Value}{T:TypeId}{fr:Nat × Nat}{bs:Bytes}(hi:In L (so b (.cells vs.toArray T fr)))(hm:m=bs.length)(hv:(vs.drop o).take m=av bs):
  Da L (.slice (some ⟨b,o,none⟩) m c) bs:=by
 subst hm;refine .inr ⟨_,c,rfl,fun w hh j hj=>?_⟩;rw[add_lit];refine nP hh hi ?_;have h2:((vs.drop o).take bs.length)[j]? =(av bs)[j]? :=by rw[hv]
 rw[List.getElem?_take,if_pos hj,List.getElem?_drop]at h2;rw[h2];simp[av,hj]
theorem rK [Env]{L:List ax}{s:Sv}{e:TypeId}{bs:Bytes}(hi:In L (aD s e (av bs)))(cq:bW s bs.length 1 (av bs)):Da L (aG s bs.length) bs:=by
 cases s with
 |none=>
  obtain⟨h1,h2⟩:=cq;have:bs=[]:=List.eq_nil_of_length_eq_zero h1;subst this;exact .inl ⟨rfl,rfl⟩
 |some p=>exact CM hi rfl (by simp)
theorem Da.bo [Env]{R:List ax}{v:Value}{bs:Bytes}(h:Da R v bs): ∃b c,v= .slice b bs.length c:=by
 rcases h with⟨rfl,rfl⟩|⟨a,c,rfl,_⟩
 · exact⟨none,0,rfl⟩
 · exact⟨some a,c,rfl⟩
section
variable {P : Program} {n : Nat} {l : List (Nat × Value)} {L : List ax} {d : Option Tmp} {ty : TypeId} {pos : String} {af : Array Edge} {g : Option (Nat × Bool)}
theorem Tl [Env]{x:Operand}{t:TypeId}{T e:TypeId}{v:Value}{bs:Bytes}(hx:ev l x=some v)(hu:P.underlying T=some (.slice e))(hb: ∃b c,v= .slice b bs.length c):
  Ev P n ⟨d,.call {callee:= .builtin .len,args:= #[x],argTypes:= #[T]},t,pos,af,g⟩ l L (.int .i64 bs.length):=by
 obtain⟨b,c,rfl⟩:=hb;exact pq hx hu
theorem Da.first [Env]{R:List ax}{v:Value}{bs:Bytes}(h:Da R v bs)(k:Nat)(hk:k≤bs.length){w:World}(hh:Has w R):(Builtin.firstCells 1 k v).run P w= .ok (av (bs.take k)).toArray w:=by
 rcases h with⟨rfl,rfl⟩|⟨a,c,rfl,h2⟩
 ·simp[Builtin.firstCells,av]
 ·have hl:=run_loadCells_list (P:=P) w a (av (bs.take k)) (fun j v hj=>by
   have MZ:=(List.getElem?_eq_some_iff.1 hj).1;simp at MZ;rw[h2 w hh j (by omega)];rw[←hj];simp[av,MZ,show j<bs.length by omega])
  have:(av (bs.take k)).length=k:=by simp;omega
  rw[this]at hl;simp[Builtin.firstCells,hl]
theorem Da.src [Env]{R:List ax}{v:Value}{bs:Bytes}(h:Da R v bs):Src P R 1 v bs.length (av bs):=by
 refine⟨by simp,fun w hh=>⟨?_,?_⟩⟩
 ·obtain⟨p,q,rfl⟩:=h.bo;simp[Builtin.lenOf]
 ·have:=h.first (P:=P) bs.length (Nat.le_refl _) hh;simpa using this
theorem Dv [Env]{x z:Operand}{dT sT e:TypeId}{b o dl dc k:Nat}{vs vs':List Value}{T:TypeId}{v:Value}{bs:Bytes}{L':List ax}
  (hx:ev l x=some (.slice (some ⟨b,o,none⟩) dl dc)) (hz:ev l z=some v) (hu:P.underlying dT=some (.slice e)) (hs: ∀w,(sizeOf e).run P w= .ok 1 w)
  (hb:Da L v bs) (hk:k=min bs.length dl) (r:Rp L (sc b vs T) (sc b vs' T) L') (ho:o+k≤vs.length) (hv:vs.take o++av (bs.take k)++vs.drop (o+k)=vs'):
  Ac P n ⟨d,.call {callee:= .builtin .copy,args:= #[x,z],argTypes:= #[dT,sT]},ty,pos,af,g⟩ l L (fun v Nk=>v= .int .i64 k∧Nk=L'):=by
 intro a w hf hh;have ee:In L (sc b vs T):=r.pk.choose_spec.1.in;have Wp:=hh.cells ee;have hl:(av (bs.take k)).length=k:=by simp;omega
 have gw:=run_storeCells_at P b o T (av (bs.take k)) 0 vs.toArray w Wp (by simp at hl ⊢;omega) (cL _);have e:List.take (o+0) vs.toArray.toList++av (bs.take k)++List.drop (o+0+(av (bs.take k)).length) vs.toArray.toList=vs':=by rw[←hv,hl];simp
 rw[e]at gw;refine⟨_,_,_,.inl ?_,⟨rfl,rfl⟩,hh.setRow r⟩
 have h2:(Builtin.lenOf v).run P w= .ok bs.length w:=by
  obtain⟨p,q,rfl⟩:=hb.bo;simp[Builtin.lenOf]
 have h3:=hb.first (P:=P) k (by omega) hh;have h4:Nat.min bs.length dl=k:=hk.symm;simp[execOp,resolve,invoke,builtin,hf.ev hx,hf.ev hz,Builtin.copy_,run_underlying hu,hs,h2,h3,h4,gw,goInt]
theorem ak [Env]{t:TypeId}{x:Operand}{b k:Nat}{vs:List Value}{T:TypeId}{fr:Nat × Nat}(hx:ev l x=some (.pointer (some ⟨b,0,none⟩)))
  (ha: ∀w,(isAgg t).run P w= .ok true w) (hs: ∀w,(sizeOf t).run P w= .ok k w) (hi:In L (so b (.cells vs.toArray T fr))) (hk:vs.length=k):
  Ev P n ⟨d,.load t x,ty,pos,af,g⟩ l L (.agg vs.toArray):=
 ay hx ha hs hi (by simp[←hk]) hk
end
end Go.Sl
namespace Go.Sl
def mT(n:Int):Nat:=if 0≤n then(2*n).toNat else(-2*n- 1).toNat
def An(u:Nat):Int:=if u % 2=0 then((u / 2:Nat):Int)else-((u / 2:Nat):Int)- 1
theorem VV(n:Int):An (mT n)=n:=by
 unfold An mT;split<;>split<;>omega
theorem oC{n:Int}(h1: -9223372036854775808≤n)(h2:n≤9223372036854775807):mT n<18446744073709551616:=by
 unfold mT;split<;>omega
def fN(u:Nat):Bytes:=if u<128 then [UInt8.ofNat u]else UInt8.ofNat (u % 128+128)::fN (u / 128)
termination_by u
decreasing_by omega
def jy:Nat→Bytes→Option (Nat × Bytes)
 |_,[]=>none
 |k,x::r=>if(k=9∧1<x.toNat)∨(0<k∧x.toNat=0)then none else if x.toNat<128 then some (x.toNat,r)else
  match jy (k+1) r with
  |none=>none
  |some q=>some (x.toNat- 128+128*q.1,q.2)
theorem Md(r:Bytes): ∀(u k:Nat),u<2^(64- 7*k)→k≤9→(0<k→0<u)→jy k (fN u++r)=some (u,r):=by
 intro u
 induction u using Nat.strongRecOn with
 |_ u ih=>
  intro k hu hk h0;unfold fN
  by_cases h:u<128
  ·rw[if_pos h];have hb:(UInt8.ofNat u).toNat=u:=by rw[UInt8.toNat_ofNat'];omega
   have h9: ¬((k=9∧1<u)∨(0<k∧u=0)):=by
    rintro(⟨rfl,h1⟩|⟨h1,h2⟩)
    ·simp at hu;omega
    ·have:=h0 h1;omega
   simp only[List.cons_append,List.nil_append,jy,hb];rw[if_neg h9,if_pos h]
  ·rw[if_neg h];have hb:(UInt8.ofNat (u % 128+128)).toNat=u % 128+128:=by rw[UInt8.toNat_ofNat'];omega
   have Ww:k≤8:=by
    rcases Nat.lt_or_ge k 9 with h1|h1
    ·omega
    ·have:k=9:=by omega
     subst this;simp at hu;omega
   have h9: ¬((k=9∧1<u % 128+128)∨(0<k∧u % 128+128=0)):=by omega
   have M7:u / 128<2^(64- 7*(k+1)):=by
    rw[Nat.div_lt_iff_lt_mul (by omega)];have e:2^(64- 7*(k+1))*128=2^(64- 7*(k+1)+7):=by rw[Nat.pow_add]
    rcases Nat.lt_or_ge k 9 with h1|h1
    ·rcases Nat.lt_or_ge (7*(k+1)) 65 with h2|h2
     · rw[e,show 64- 7*(k+1)+7=64- 7*k by omega];exact hu
     · omega
    ·omega
   have:=ih (u / 128) (by omega) (k+1) M7 (by omega) (fun _=>by omega);simp only[List.cons_append,jy,hb];rw[if_neg h9,if_neg (by omega),this];simp only[Option.some.injEq,Prod.mk.injEq,and_true];omega
def ju:Nat→Bytes→Option (List Int × Bytes)
 |0,r=>some ([],r)
 |n+1,r=>match jy 0 r with
  |none=>none
  |some q=>match ju n q.2 with
   |none=>none
   |some t=>some (An q.1::t.1,t.2)
def FU:Bytes→Option (Bytes × Bytes)
 | []=>none
 |x::r=>if 200<x.toNat then none else if r.length<x.toNat then none else some (r.take x.toNat,r.drop x.toNat)
def gW:Nat→Bytes→Option (List Bytes × Bytes)
 |0,r=>some ([],r)
 |n+1,r=>match FU r with
  |none=>none
  |some q=>match gW n q.2 with
   |none=>none
   |some t=>some (q.1::t.1,t.2)
structure RecM where
 kind:Int
 aH:List Int
 texts:List Bytes
def kX(h:Nat):Nat:=if 240≤h then 16 else h % 16
def js(h:Nat):Nat:=if 240≤h then h- 240 else h / 16
def lU:Bytes→Option RecM
 |k::h::r=>if 4<js h.toNat then none else
  match ju (kX h.toNat) r with
  |none=>none
  |some q=>match gW (js h.toNat) q.2 with
   |none=>none
   |some t=>if t.2=[]then some ⟨k.toNat,q.1,t.1⟩else none
 |_=>none
def oH(n t:Nat):UInt8:=if n=16 then UInt8.ofNat (240+t)else UInt8.ofNat (n+16*t)
def eZ(ns:List Int):Bytes:=ns.flatMap fun n=>fN (mT n)
def fJ(ts:List Bytes):Bytes:=ts.flatMap fun t=>UInt8.ofNat t.length::t
def bL(r:RecM):Bytes:=UInt8.ofNat r.kind.toNat::oH r.aH.length r.texts.length::(eZ r.aH++fJ r.texts)
structure RecM.may(r:RecM):Prop where
 k0:0≤r.kind
 k1:r.kind≤255
 ns:r.aH.length≤16
 ts:r.texts.length≤4
 len: ∀t∈r.texts,t.length≤200
 num: ∀n∈r.aH,-9223372036854775808≤n∧n≤9223372036854775807
theorem vM(r:Bytes): ∀(ns:List Int),(∀n∈ns,-9223372036854775808≤n∧n≤9223372036854775807)→ju ns.length (eZ ns++r)=some (ns,r)
 | [],_=>rfl
 |n::ns,h=>by
  have hn:=h n (by simp);have h1:=Md (eZ ns++r) (mT n) 0 (by have:=oC hn.1 hn.2;simpa using this) (by omega) (by omega);have h2:=vM r ns (fun m hm=>h m (by simp[hm]));simp only[eZ,List.flatMap_cons,List.length_cons,ju,List.append_assoc]at h1 h2 ⊢;rw[h1];simp only;rw[h2];simp only[VV]
theorem qU(r:Bytes): ∀(ts:List Bytes),(∀t∈ts,t.length≤200)→gW ts.length (fJ ts++r)=some (ts,r)
 | [],_=>rfl
 |t::ts,h=>by
  have ht:=h t (by simp);have h2:=qU r ts (fun m hm=>h m (by simp[hm]));have hb:(UInt8.ofNat t.length).toNat=t.length:=by rw[UInt8.toNat_ofNat'];omega
  simp only[fJ,List.flatMap_cons,List.length_cons,gW,List.append_assoc,List.cons_append,FU,hb]at h2 ⊢;rw[if_neg (by omega),if_neg (by simp)];simp only[List.take_left,List.drop_left];rw[h2]
theorem Zb{n t:Nat}(hn:n≤16)(ht:t≤4):kX (oH n t).toNat=n∧js (oH n t).toNat=t:=by
 unfold kX js oH
 by_cases h:n=16
 ·rw[if_pos h,UInt8.toNat_ofNat',show(240+t) % 2^8=240+t by omega];rw[if_pos (by omega),if_pos (by omega)];omega
 ·rw[if_neg h,UInt8.toNat_ofNat',show(n+16*t) % 2^8=n+16*t by omega];rw[if_neg (by omega),if_neg (by omega)];omega
theorem nF{r:RecM}(h:r.may):lU (bL r)=some r:=by
 obtain⟨h1,h2⟩:=Zb h.ns h.ts;have hk:(UInt8.ofNat r.kind.toNat).toNat=r.kind.toNat:=by rw[UInt8.toNat_ofNat'];have:=h.k0;have:=h.k1;omega
 have h3:=vM (fJ r.texts) r.aH h.num;have h4:=qU [] r.texts h.len;rw[List.append_nil]at h4;unfold bL lU;simp only[h1,h2,hk];rw[if_neg (by have:=h.ts;omega),h3];simp only;rw[h4];simp only[if_true];have:((r.kind.toNat:Nat):Int)=r.kind:=by have:=h.k0;omega
 rw[this]
end Go.Sl