/- A part of the proof. -/
import Derived.Test.YtlignadmmopdmaaGreatGA
import Derived.Laws.IdiomStrings
import Derived.IntWalk
import Derived.WalkSpells
set_option linter.unusedVariables false
set_option linter.unusedSimpArgs false
set_option linter.constructorNameAsVariable false
namespace Go.Sl
abbrev Kv:=List (Int × Value × Nat)
def ent(x:Int × Value × Nat):MapEntry:=⟨.int .i64 x.1,x.2.1,x.2.2⟩
def ents(kv:Kv):Array MapEntry:=(kv.map ent).toArray
def mget(kv:Kv)(k:Int):Option Value:=(kv.find? (fun x=>decide (x.1=k))).map (·.2.1)
def mset(kv:Kv)(k:Int)(v:Value):Kv:=kv.map fun x=>if x.1=k then(k,v,x.2.2)else x
def mput(kv:Kv)(c:Nat)(k:Int)(v:Value):Kv:=if kv.any (fun x=>decide (x.1=k))then mset kv k v else kv++[(k,v,c)]
def mclk(kv:Kv)(c:Nat)(k:Int):Nat:=if kv.any (fun x=>decide (x.1=k))then c else c+1
def mdel(kv:Kv)(k:Int):Kv:=kv.eraseP fun x=>decide (x.1=k)
/-- Each key once. -/
def uniq(kv:Kv):Prop:=(kv.map (·.1)).Nodup
theorem findNow_ents(k:Int): ∀(kv:Kv) (i:Nat),Instr.findNow (.int .i64) (.int .i64 k) (kv.map ent) i=
  some ((kv.findIdx? (fun x=>decide (x.1=k))).map fun j=>(i+j,((kv[j]?).map (·.2.1)).getD undef))
 | [],i=>by simp[Instr.findNow]
 |x::kv,i=>by
  have ih:=findNow_ents k kv (i+1);simp only[List.map_cons,Instr.findNow,ent,Instr.sameNow,if_true]
  by_cases h:x.1=k
  ·simp[List.findIdx?_cons,h]
  ·have hb:(k==x.1)=false:=by simpa using fun e=>h e.symm
   simp only[hb];have h':decide (x.1=k)=false:=by simpa using h
   rw[ih];simp only[List.findIdx?_cons,h'];cases kv.findIdx? (fun x=>decide (x.1=k))with
   |none=>simp
   |some j=>simp;omega
theorem run_findKey{P:Program}{K:TypeId}(hK:P.underlying K=some (.int .i64))(k:Int)(kv:Kv)(w:World):
  (Instr.findKey K (.int .i64 k) (ents kv).toList).run P w= .ok ((kv.findIdx? (fun x=>decide (x.1=k))).map fun j=>(j,((kv[j]?).map (·.2.1)).getD undef)) w:=by
 have:=findNow_ents k kv 0;simp only[Nat.zero_add]at this;simp[Instr.findKey,run_underlying hK,ents,this]
theorem run_checkKey{P:Program}{K:TypeId}(hK:P.underlying K=some (.int .i64))(e:Bool)(d:Nat)(k:Int)(w:World):
  (Instr.checkKey e (d+1) K (.int .i64 k)).run P w= .ok () w:=by
 simp[Instr.checkKey,run_underlying hK]
theorem find_idx(kv:Kv)(k:Int):(kv.findIdx? (fun x=>decide (x.1=k))).map (fun j=>((kv[j]?).map (·.2.1)).getD undef)=mget kv k:=by
 unfold mget
 induction kv with
 |nil=>simp
 |cons x kv ih=>
  by_cases h:x.1=k
  ·simp[List.findIdx?_cons,h]
  ·have h':decide (x.1=k)=false:=by simpa using h
   simp only[List.findIdx?_cons,h',List.find?_cons];rw[←ih];cases kv.findIdx? (fun x=>decide (x.1=k))<;>simp
section
variable {P : Program} {n : Nat} {l : List (Nat × Value)} {L : List Seg} {d : Option Tmp} {ty : TypeId} {pos : String} {af : Array Edge} {g : Option (Nat × Bool)}
theorem run_getObj{w:World}{b:Nat}{es:Array MapEntry}{c:Nat}(h:w.heap[b]? =some (.map es c)):(getObj b).run P w= .ok (.map es c) w:=by
 simp[getObj,Sem.run,h]
theorem run_setObj{w:World}{b:Nat}{es:Array MapEntry}{c:Nat}{o:Obj}(h:w.heap[b]? =some (.map es c)):(setObj b o).run P w= .ok () (setB w b o):=by
 simp[setObj,Sem.run,h,setB]
theorem run_lookup{w:World}{T K E:TypeId}{b c:Nat}{kv:Kv}{k:Int}{z:Value}(ok:Bool)(hu:P.underlying T=some (.map K E))(hK:P.underlying K=some (.int .i64))(hz:(zeroValue E).run P w= .ok z w)
  (hb:w.heap[b]? =some (.map (ents kv) c)):
  (Instr.lookup T (.map (some b)) (.int .i64 k) ok).run P w= .ok (if ok then .tuple #[(mget kv k).getD z,.bool (mget kv k).isSome]else(mget kv k).getD z) w:=by
 rw[←find_idx];have hf:=run_findKey hK k kv w;simp only[Instr.lookup,Sem.run_bind,run_underlying hu,Result.andThen_ok,run_getObj hb,Sem.run_pure,run_checkKey hK,hf];cases kv.findIdx? (fun x=>decide (x.1=k))with
 |none=>simp[hz]
 |some j=>simp
theorem ev_lookup [Env]{T K E:TypeId}{x y:Operand}{b c:Nat}{kv:Kv}{k:Int}{z:Value}(hx:ev l x=some (.map (some b)))(hy:ev l y=some (.int .i64 k))(hu:P.underlying T=some (.map K E))(hK:P.underlying K=some (.int .i64))
  (hz: ∀w,(zeroValue E).run P w= .ok z w) (hi:In L (so b (.map (ents kv) c))):
  Ev P n ⟨d,.lookup T x y false,ty,pos,af,g⟩ l L ((mget kv k).getD z):=
 fun a w hf hh=>by simp[execOp,hf.ev hx,hf.ev hy,run_lookup false hu hK (hz w) (hh.obj hi)]
theorem ev_lookup2 [Env]{T K E:TypeId}{x y:Operand}{b c:Nat}{kv:Kv}{k:Int}{z:Value}(hx:ev l x=some (.map (some b)))(hy:ev l y=some (.int .i64 k))(hu:P.underlying T=some (.map K E))(hK:P.underlying K=some (.int .i64))
  (hz: ∀w,(zeroValue E).run P w= .ok z w) (hi:In L (so b (.map (ents kv) c))):
  Ev P n ⟨d,.lookup T x y true,ty,pos,af,g⟩ l L (.tuple [(mget kv k).getD z,.bool (mget kv k).isSome].toArray):=
 fun a w hf hh=>by simp[execOp,hf.ev hx,hf.ev hy,run_lookup true hu hK (hz w) (hh.obj hi)]
theorem ac_makeMap [Env]{T:TypeId}:Ac P n ⟨d,.makeMap T none,ty,pos,af,g⟩ l L (fun v L'=> ∃b,v= .map (some b)∧L'=so b (.map (ents []) 0)::L):=by
 intro a w hf hh;refine⟨_,_,_,.inl (by simp[execOp,Instr.makeMap];exact⟨rfl,rfl⟩),⟨_,rfl,rfl⟩,?_⟩;exact hh.alloc (.map #[] 0)
theorem sameBits_int(m:Nat)(k:IntKind)(x:Int):Instr.sameBits m (.int k x) (.int k x)=true:=by
 cases m<;>simp[Instr.sameBits]
theorem findIdx_any(kv:Kv)(k:Int):(kv.findIdx? (fun x=>decide (x.1=k))).isSome=kv.any (fun x=>decide (x.1=k)):=by
 induction kv with
 |nil=>rfl
 |cons x kv ih=>
  by_cases h:x.1=k
  ·simp[List.findIdx?_cons,h]
  ·have h':decide (x.1=k)=false:=by simpa using h
   simp only[List.findIdx?_cons,h',List.any_cons,Bool.false_or,←ih];cases kv.findIdx? (fun x=>decide (x.1=k))<;>simp
theorem modify_mset(kv:Kv)(k:Int)(v:Value)(hu:uniq kv): ∀j,kv.findIdx? (fun x=>decide (x.1=k))=some j→
  (kv.map ent).modify j (fun e=>{e with key:= .int .i64 k,val:=v})=(mset kv k v).map ent:=by
 unfold mset
 induction kv with
 |nil=>intro j h;simp at h
 |cons x kv ih=>
  intro j h;have hu':uniq kv:=(List.nodup_cons.1 hu).2
  by_cases hk:x.1=k
  ·simp[List.findIdx?_cons,hk]at h;subst h;have hno: ∀y∈kv,y.1≠k:=fun y hy e=>(List.nodup_cons.1 hu).1 (List.mem_map.2 ⟨y,hy,e.trans hk.symm⟩)
   simp only[List.map_cons,List.modify_zero_cons,if_pos hk,List.map_map];congr 1;apply List.map_congr_left;intro y hy;simp[hno y hy]
  ·have h':decide (x.1=k)=false:=by simpa using hk
   simp[List.findIdx?_cons,h']at h;obtain⟨i,hi,rfl⟩:=h;simp only[List.map_cons,List.modify_succ_cons,if_neg hk];rw[ih hu' i (by simpa using hi)]
theorem ac_mapUpdate [Env]{T K E:TypeId}{x y z:Operand}{b c:Nat}{kv:Kv}{k:Int}{v:Value}{L':List Seg}(hx:ev l x=some (.map (some b)))(hy:ev l y=some (.int .i64 k))(hz:ev l z=some v)
  (hu:P.underlying T=some (.map K E)) (hK:P.underlying K=some (.int .i64)) (hq:uniq kv) (r:Rp L (so b (.map (ents kv) c)) (so b (.map (ents (mput kv c k v)) (mclk kv c k))) L'):
  Ac P n ⟨d,.mapUpdate T x y z,ty,pos,af,g⟩ l L (KTo L'):=by
 intro a w hf hh;have hin:=r.pk.choose_spec.1.in;have hb:=hh.obj hin;have hfk:=run_findKey hK k kv w;refine⟨undef,setB w b (.map (ents (mput kv c k v)) (mclk kv c k)),L',.inr ⟨?_,rfl⟩,⟨rfl,rfl⟩,hh.setB r⟩;simp only[execOp,hf.ev hx,hf.ev hy,hf.ev hz,Instr.mapUpdate,Sem.run_bind,run_underlying hu,Result.andThen_ok,run_getObj hb,run_checkKey hK,hfk,Sem.run_pure];have ha:=findIdx_any kv k;cases hi:kv.findIdx? (fun x=>decide (x.1=k))with
 |none=>
  rw[hi]at ha;have ha':kv.any (fun x=>decide (x.1=k))=false:=by simpa using ha.symm
  simp only[Option.map_none,run_setObj hb,Result.andThen_ok,mput,mclk,ha'];simp[ents,ent]
 |some j=>
  rw[hi]at ha;have ha':kv.any (fun x=>decide (x.1=k))=true:=by simpa using ha.symm
  have hjk: ∃hj:j<kv.length,kv[j].1=k:=by
   have:=List.findIdx?_eq_some_iff_getElem.1 hi;obtain⟨hj,h1,_⟩:=this;exact⟨hj,by simpa using h1⟩
  obtain⟨hj,hjk⟩:=hjk
  have hkey:(((ents kv)[j]?).map (·.key)).getD (Value.int .i64 k)= .int .i64 k:=by
   simp[ents,hj,ent,hjk]
  have hmod:(ents kv).modify j (fun e=>{e with key:= .int .i64 k,val:=v})=ents (mset kv k v):=by
   unfold ents;rw[←modify_mset kv k v hq j hi];simp
  simp only[Option.map_some,hkey,Instr.keyThatStays,sameBits_int,if_true,pure_bind,hmod,Result.andThen_ok,run_setObj hb,mput,mclk,ha']
theorem ac_clearM [Env]{T K E:TypeId}{x:Operand}{b c:Nat}{es:Array MapEntry}{L':List Seg}(hx:ev l x=some (.map (some b)))(hu:P.underlying T=some (.map K E))(r:Rp L (so b (.map es c)) (so b (.map (ents []) c)) L'):
  Ac P n ⟨d,.call {callee:= .builtin .clear,args:= #[x],argTypes:= #[T]},ty,pos,af,g⟩ l L (fun v L''=>v= .tuple #[]∧L''=L'):=by
 intro a w hf hh;have hb:=hh.obj r.pk.choose_spec.1.in;refine⟨.tuple #[],setB w b (.map #[] c),L',.inl ?_,⟨rfl,rfl⟩,hh.setB r⟩;simp[execOp,resolve,invoke,builtin,hf.ev hx,Builtin.clear_,run_underlying hu,run_getObj hb,run_setObj hb]
theorem ac_delete [Env]{T K E:TypeId}{x y:Operand}{b c:Nat}{kv:Kv}{k:Int}{ts:Array TypeId}{L':List Seg}(hx:ev l x=some (.map (some b)))(hy:ev l y=some (.int .i64 k))(hu:P.underlying T=some (.map K E))(hK:P.underlying K=some (.int .i64))
  (hts:ts[0]? =some T) (r:Rp L (so b (.map (ents kv) c)) (so b (.map (ents (mdel kv k)) c)) L'):
  Ac P n ⟨d,.call {callee:= .builtin .delete,args:= #[x,y],argTypes:=ts},ty,pos,af,g⟩ l L (fun v L''=>v= .tuple #[]∧L''=L'):=by
 intro a w hf hh;have hb:=hh.obj r.pk.choose_spec.1.in;have hfk:=run_findKey hK k kv w;refine⟨.tuple #[],setB w b (.map (ents (mdel kv k)) c),L',.inl ?_,⟨rfl,rfl⟩,hh.setB r⟩
 have hdel: ∀j,kv.findIdx? (fun x=>decide (x.1=k))=some j→(ents kv).eraseIdxIfInBounds j=ents (mdel kv k):=by
  intro j hj;have hj':=(List.findIdx?_eq_some_iff_getElem.1 hj);obtain⟨hlt,_,_⟩:=hj'
  have e1:kv.eraseIdx j=mdel kv k:=by
   unfold mdel;rw[List.eraseP_eq_eraseIdx,hj]
  unfold ents;rw[←e1]
  have: ∀(q:Kv) (i:Nat),(q.eraseIdx i).map ent=(q.map ent).eraseIdx i:=by
   intro q
   induction q with
   |nil=>intro i;rfl
   |cons a q ih=>intro i;cases i<;>simp[ih]
  rw[this];simp[Array.eraseIdxIfInBounds,hlt]
 have hnone:kv.findIdx? (fun x=>decide (x.1=k))=none→mdel kv k=kv:=by
  intro h;unfold mdel;rw[List.eraseP_eq_eraseIdx,h]
 cases hi:kv.findIdx? (fun x=>decide (x.1=k))with
 |none=>
  rw[hi]at hfk;simp[execOp,resolve,invoke,builtin,hf.ev hx,hf.ev hy,Builtin.delete_,hts,run_underlying hu,run_getObj hb,run_checkKey hK,hfk,run_setObj hb,hnone hi]
 |some j=>
  rw[hi]at hfk;simp[execOp,resolve,invoke,builtin,hf.ev hx,hf.ev hy,Builtin.delete_,hts,run_underlying hu,run_getObj hb,run_checkKey hK,hfk,run_setObj hb,hdel j hi]
end
end Go.Sl
namespace Go.Sl
section
variable {P : Program} {n : Nat} {Q : Exit → Act → World → Prop} {l : List (Nat × Value)} {L : List Seg} {d : Option Tmp} {ty : TypeId} {pos : String} {af : Array Edge} {g : Option (Nat × Bool)}
theorem ccond1 [Env]{c:Operand}{x z:Code}(hc:ev l c=some (.bool true))(h1:Sc P n x Q l L):Sc P n (.cond c x z) Q l L:=
 fun a w hf hh=>wp_cond_true (hf.ev hc) (h1 a w hf hh)
theorem ccond0 [Env]{c:Operand}{x z:Code}(hc:ev l c=some (.bool false))(h1:Sc P n z Q l L):Sc P n (.cond c x z) Q l L:=
 fun a w hf hh=>wp_cond_false (hf.ev hc) (h1 a w hf hh)
def evps(l:List (Nat × Value)):List (Nat × Operand)→Option (List (Nat × Value))
 | []=>some []
 |(i,x)::xs=>match ev l x with
  |some v=>match evps l xs with
   |some vs=>some ((i,v)::vs)
   |none=>none
  |none=>none
theorem evps_eq{a:Act}(hf:Fr n l a): ∀{xs:List (Nat × Operand)} {vs:List (Nat × Value)},evps l xs=some vs→xs.map (fun p=>(p.1,a.eval p.2))=vs
 | [],vs,h=>by simpa[evps]using h
 |(i,x)::xs,vs,h=>by
  unfold evps at h;split at h
  ·rename_i v hv
   split at h
   ·rename_i us hus
    cases h;simp[hf.ev hv,evps_eq hf hus]
   ·cases h
  ·cases h
def vcells:Value→List Value
 | .agg us=>us.toList
 |v=>[v]
theorem vcells_eq(v:Value):v.cells=(vcells v).toArray:=by cases v<;>simp[Value.cells,vcells]
def splice(z us:List Value)(o:Nat):List Value:=z.take o++us++z.drop (o+us.length)
/-- The cells behind filling: each part at its place. -/
def fillL(pl:List (Nat × Nat)):List Value→List (Nat × Value)→List Value
 |z,[]=>z
 |z,(i,v)::r=>fillL pl (splice z (vcells v) ((pl[i]?).getD (0,0)).1) r
def fillOk(pl:List (Nat × Nat)):Nat→List (Nat × Value)→Prop
 |_,[]=>True
 |m,(i,v)::r=>(∃o k,pl[i]? =some (o,k)∧(vcells v).length=k∧o+k≤m)∧fillOk pl m r
theorem foldl_splice: ∀(us:List Value) (k o:Nat) (cs:Array Value),o+k+us.length≤cs.size→
  ((us.zipIdx k).foldl (fun cs (x:Value × Nat)=>cs.setIfInBounds (o+x.2) x.1) cs)=(splice cs.toList us (o+k)).toArray
 | [],k,o,cs,_=>by simp[splice]
 |u::us,k,o,cs,h=>by
  have ih:=foldl_splice us (k+1) o (cs.setIfInBounds (o+k) u) (by simp at h ⊢;omega);simp only[List.zipIdx_cons,List.foldl_cons,ih];congr 1;have e:=list_seg_step cs.toList (o+k) u us (by simp at h ⊢;omega);unfold splice;simp only[Array.toList_setIfInBounds,List.length_cons];simpa[Nat.add_assoc]using e
theorem splice_length(z us:List Value)(o:Nat)(h:o+us.length≤z.length):(splice z us o).length=z.length:=by
 simp[splice];omega
theorem fill_eq(place:Nat→Option (Nat × Nat))(pl:List (Nat × Nat))(hpl: ∀i o k,pl[i]? =some (o,k)→place i=some (o,k)):
  ∀(ps:List (Nat × Value)) (cells:Array Value),fillOk pl cells.size ps→Instr.fill place cells ps=some (fillL pl cells.toList ps).toArray
 | [],cells,_=>by simp[Instr.fill,fillL]
 |(i,v)::r,cells,h=>by
  obtain⟨⟨o,k,hi,hk,hle⟩,hr⟩:=h;have hv:=vcells_eq v;have hs:v.cells.size=k:=by rw[hv];simpa using hk
  have h1: ¬((v.cells.size !=k||decide (o+v.cells.size>cells.size))=true):=by
   simp[hs];omega
  have h2:v.cells.zipIdx.foldl (fun cs (x:Value × Nat)=>cs.setIfInBounds (o+x.2) x.1) cells=(splice cells.toList (vcells v) o).toArray:=by
   have:=foldl_splice (vcells v) 0 o cells (by omega);simp only[Nat.add_zero]at this;rw[←this,hv,←Array.foldl_toList];simp
  have ih:=fill_eq place pl hpl r (splice cells.toList (vcells v) o).toArray (by
   have:(splice cells.toList (vcells v) o).toArray.size=cells.size:=by simp[splice_length _ _ _ (show o+(vcells v).length≤cells.toList.length by simp;omega)]
   rw[this];exact hr)
  simp only[Instr.fill,hpl i o k hi];rw[if_neg (by simpa using h1)];rw[h2,ih];simp[fillL,hi]
/-- Where a struct's parts lie. -/
inductive Places(P:Program):List Field→List (Nat × Nat)→Prop
 |nil:Places P [] []
 |cons {f:Field} {fs:List Field} {k:Nat} {pl:List (Nat × Nat)} (hs: ∀w,(sizeOf f.type).run P w= .ok k w) (h:Places P fs pl):Places P (f::fs) ((f.offset,k)::pl)
theorem Places.run{fs:List Field}{pl:List (Nat × Nat)}(h:Places P fs pl)(w:World):(fs.mapM fun f=>do pure (f.offset,←sizeOf f.type):Sem (List (Nat × Nat))).run P w= .ok pl w:=by
 induction h with
 |nil=>simp
 |cons hs _ ih=>simp only[List.mapM_cons,Sem.run_bind,hs,Result.andThen_ok,Sem.run_pure,ih]
theorem ev_build [Env]{t:TypeId}{parts:List (Nat × Operand)}{ps:List (Nat × Value)}{fs:Array Field}{zv:Value}{zs vs:List Value}{pl:List (Nat × Nat)}(hp:evps l parts=some ps)(hu:P.underlying t=some (.struct fs))
  (hz: ∀w,(zeroValue t).run P w= .ok zv w) (hzs:zv.cells=zs.toArray) (hpl:Places P fs.toList pl)
  (hok:fillOk pl zs.length ps) (hv:fillL pl zs ps=vs):
  Ev P n ⟨d,.build t parts.toArray,ty,pos,af,g⟩ l L (.agg vs.toArray):=
 fun a w hf _=>by
  have h1:=evps_eq hf hp;have h2:=fill_eq (fun i=>pl.toArray[i]?) pl (fun i o k h=>by simpa using h) ps zs.toArray (by simpa using hok);have h3:(parts.toArray.map fun(x:Nat × Operand)=>(x.1,a.eval x.2))=ps.toArray:=by simp[←h1]
  have h6:(fs.mapM fun f=>do pure (f.offset,←sizeOf f.type):Sem (Array (Nat × Nat))).run P w= .ok pl.toArray w:=by
   rw[Array.mapM_eq_mapM_toList];simp only[Sem.run_map,hpl.run,Result.andThen_ok]
  have h4:(Instr.build t ps.toArray).run P w= .ok (.agg vs.toArray) w:=by
   simp only[Instr.build,Sem.run_bind,hz,run_underlying hu,Result.andThen_ok,hzs,h6];have h5:Instr.fill (fun x=>pl.toArray[x]?) zs.toArray ps.toArray.toList=some vs.toArray:=by rw[←hv];exact h2
   rw[h5];rfl
  simp only[execOp,Sem.run_bind];rw[show(parts.toArray.map fun(x:Nat × Operand)=>match x with|(i,x)=>(i,a.eval x))=ps.toArray from h3,h4];rfl
theorem ev_buildA [Env]{t e m s:Nat}{parts:List (Nat × Operand)}{ps:List (Nat × Value)}{zv:Value}{zs vs:List Value}(hp:evps l parts=some ps)(hu:P.underlying t=some (.array m e))
  (hz: ∀w,(zeroValue t).run P w= .ok zv w) (hzs:zv.cells=zs.toArray) (hs: ∀w,(sizeOf e).run P w= .ok s w)
  (hok:fillOk ((List.range m).map fun i=>(i*s,s)) zs.length ps) (hv:fillL ((List.range m).map fun i=>(i*s,s)) zs ps=vs):
  Ev P n ⟨d,.build t parts.toArray,ty,pos,af,g⟩ l L (.agg vs.toArray):=
 fun a w hf _=>by
  have h1:=evps_eq hf hp
  have h2:=fill_eq (fun i=>some (i*s,s)) ((List.range m).map fun i=>(i*s,s)) (fun i o k h=>by
   simp[List.getElem?_range]at h;obtain⟨_,h1,h2,h3⟩:=h;obtain⟨_,rfl⟩:=List.getElem?_eq_some_iff.1 h1;simp at h2;rw[←h2,←h3]) ps zs.toArray (by simpa using hok)
  have h3:(parts.toArray.map fun(x:Nat × Operand)=>(x.1,a.eval x.2))=ps.toArray:=by simp[←h1]
  have h4:(Instr.build t ps.toArray).run P w= .ok (.agg vs.toArray) w:=by
   simp only[Instr.build,Sem.run_bind,hz,run_underlying hu,Result.andThen_ok,hzs,hs];have h5:Instr.fill (fun i=>some (i*s,s)) zs.toArray ps.toArray.toList=some vs.toArray:=by rw[←hv];exact h2
   rw[h5];rfl
  simp only[execOp,Sem.run_bind];rw[show(parts.toArray.map fun(x:Nat × Operand)=>match x with|(i,x)=>(i,a.eval x))=ps.toArray from h3,h4];rfl
/-- A slice written out. -/
theorem ac_bslice [Env]{t e:TypeId}{m s:Nat}{parts:List (Nat × Operand)}{ps:List (Nat × Value)}{zv:Value}{zs vs:List Value}(hp:evps l parts=some ps)
    (hu:P.underlying t=some (.slice e)) (hs: ∀w,(sizeOf e).run P w= .ok s w) (hz: ∀w,(zeroValue e).run P w= .ok zv w) (hbig:Nat.ble (m*s) 16777216=true) (hpos:Nat.blt 0 (m*s)=true)
    (hzs:((Array.range (m*s)).map (zv.cells[· % zv.cells.size]!))=zs.toArray)
    (hok:fillOk ((List.range m).map fun i=>(i*s,s)) zs.length ps) (hv:fillL ((List.range m).map fun i=>(i*s,s)) zs ps=vs):
    Ac P n ⟨d,.buildSlice t m parts.toArray,ty,pos,af,g⟩ l L (KSl e m vs L):=by
  intro a w hf hh;have h0: ¬(m*s>2^24):=by have:=Nat.le_of_ble_eq_true hbig;omega
  have h1 : ¬ (m * s = 0) := by have:0<m*s:=by simpa using hpos
                                omega
  have hm:=evps_eq hf hp
  have h2:=fill_eq (fun i=>some (i*s,s)) ((List.range m).map fun i=>(i*s,s)) (fun i o k h=>by
      simp[List.getElem?_range]at h;obtain⟨_,h1,h2,h3⟩:=h;obtain⟨_,rfl⟩:=List.getElem?_eq_some_iff.1 h1;simp at h2;rw[←h2,←h3]) ps zs.toArray (by simpa using hok)
  have h3:(parts.toArray.map fun(x:Nat × Operand)=>(x.1,a.eval x.2))=ps.toArray:=by simp[←hm]
  have h5:Instr.fill (fun i=>some (i*s,s)) zs.toArray ps.toArray.toList=some vs.toArray:=by rw[←hv];exact h2
  have h4:(Instr.buildSlice t m ps.toArray).run P w= .ok (.slice (some ⟨w.heap.size,0,none⟩) m m) (w.alloc (.cells vs.toArray e)):=by
    simp only[Instr.buildSlice,Sem.run_bind,run_underlying hu,Result.andThen_ok,hs,h0,h1,if_false,hz,Sem.run_pure,hzs,h5,newRow,run_newObj,World.alloc_eq]
  refine⟨_,_,_,.inl ?_,⟨w.heap.size,rfl,rfl⟩,hh.alloc (.cells vs.toArray e)⟩;simp only[execOp,Sem.run_bind];rw[show(parts.toArray.map fun(x:Nat × Operand)=>match x with|(i,x)=>(i,a.eval x))=ps.toArray from h3,h4];rfl
def bytesV(bs:List UInt8):List Value:=bs.map fun b=> .int .u8 b.toNat
theorem bytesV_one(bs:List UInt8): ∀u∈bytesV bs,u.oneCell'=true:=by
 intro u hu;obtain⟨b,_,rfl⟩:=List.mem_map.1 hu;rfl
@[simp] theorem bytesV_length(bs:List UInt8):(bytesV bs).length=bs.length:=by simp[bytesV]
theorem ev_toStr0 [Env]{t u e:TypeId}{x:Operand}{m c:Nat}(hx:ev l x=some (.slice none m c))
  (ht:P.underlying t=some (.slice e)) (hu:P.underlying u=some .string) (he:P.underlying e=some (.int .u8)):Ev P n ⟨d,.convert t u x,ty,pos,af,g⟩ l L (.string ⟨#[]⟩):=by
 intro a w hf _;simp[execOp,hf.ev hx,convert,run_underlying ht,run_underlying hu,run_underlying he,Conv.bytesToString];rfl
end
end Go.Sl
namespace Go.Sl
section
variable {P : Program} {n : Nat} {Q : Exit → Act → World → Prop} {l : List (Nat × Value)} {L : List Seg} {d : Option Tmp} {ty : TypeId} {pos : String} {af : Array Edge} {g : Option (Nat × Bool)}
/-- So many copies, one behind the other. -/
def reps(m:Nat)(zs:List Value):List Value:=(List.replicate m zs).flatten
@[simp] theorem reps_length(m:Nat)(zs:List Value):(reps m zs).length=m*zs.length:=by
 induction m with
 |zero=>simp[reps]
 |succ m ih=>simp only[reps,List.replicate_succ,List.flatten_cons,List.length_append]at ih ⊢;rw[ih,Nat.add_mul];omega
theorem reps_get(zs:List Value)(h:0<zs.length): ∀(m i:Nat),i<m*zs.length→(reps m zs)[i]? =zs[i % zs.length]?
 |0,i,hi=>by simp at hi
 |m+1,i,hi=>by
  have e:reps (m+1) zs=zs++reps m zs:=by simp[reps,List.replicate_succ]
  rw[e,List.getElem?_append];split
  ·rename_i hlt;rw[Nat.mod_eq_of_lt hlt]
  ·rename_i hge
   have hge':zs.length≤i:=by omega
   rw[reps_get zs h m (i-zs.length) (by rw[Nat.add_mul]at hi;omega)];rw[Nat.mod_eq_sub_mod hge']
theorem made_cells(m:Nat)(zs:List Value)(h:0<zs.length):(Array.range (m*zs.length)).map (fun i=>zs.toArray[i % zs.toArray.size]!)=(reps m zs).toArray:=by
 apply Array.ext_getElem?;intro i
 by_cases hi:i<m*zs.length
 ·have h2:i % zs.length<zs.length:=Nat.mod_lt _ h;have h3:=reps_get zs h m i hi;rw[List.getElem?_eq_getElem h2]at h3;obtain⟨_,h4⟩:=List.getElem?_eq_some_iff.1 h3;simp[hi,h2,h4]
 ·have:(reps m zs).toArray[i]? =none:=by simp;omega
  rw[this];simp;omega
theorem wr{x:Int}(h0: -9223372036854775808≤x)(h1:x≤9223372036854775807):IntKind.i64.wrap x=x:=IntWalk.i64_in x ⟨h0,h1⟩
theorem ac_make [Env]{t e:TypeId}{x z:Operand}{m k:Nat}{i:TypeInfo}{zv:Value}{zs:List Value}(hx:ev l x=some (.int .i64 m))(hz:ev l z=some (.int .i64 m))(hu:P.underlying t=some (.slice e))(hi: ∀w,(typeInfo e).run P w= .ok i w)
  (hsz: ∀w,(sizeOf e).run P w= .ok k w) (hzv: ∀w,(zeroValue e).run P w= .ok zv w) (hzs:zv.cells=zs.toArray) (hk:k=zs.length) (hpos:0<k) (hm:m<2^40) (hbig:i.bytes*m≤2^48):
  Ac P n ⟨d,.makeSlice t x z,ty,pos,af,g⟩ l L (fun v L'=> ∃b,v= .slice (some ⟨b,0,none⟩) m m∧L'=sc b (reps m zs) e::L):=by
 intro a w hf hh;subst hk;have hw:IntKind.i64.wrap (m:Int)=(m:Int):=wr (by omega) (by omega);have hmc:=made_cells m zs hpos
 have hb2: ¬((i.bytes:Int)*(m:Int)>2^48):=by
  have:((i.bytes*m:Nat):Int)≤((2^48:Nat):Int):=Int.ofNat_le.2 hbig;simpa using this
 have hm0: ¬((m:Int)<0):=by omega
 refine⟨_,_,_,.inl ?_,⟨w.heap.size,rfl,rfl⟩,hh.alloc (.cells (reps m zs).toArray e)⟩;have hbb: ¬(281474976710656<(i.bytes:Int)*(m:Int)):=by omega
 by_cases hmz:m*zs.length=0
 ·have hr:reps m zs=[]:=List.eq_nil_of_length_eq_zero (by simpa using hmz);have:Array.range 0= #[]:=Array.eq_empty_of_size_eq_zero (by simp);simp only[execOp,Instr.makeSlice,hf.ev hx,hf.ev hz,asInt,asIntOf,Sem.run_bind,run_underlying hu,Result.andThen_ok,hi,hsz,pure_bind,Sem.run_pure,hw,newRow,hr];simp[hm0,hbb,hsz,hmz,this]
 ·simp only[execOp,Instr.makeSlice,hf.ev hx,hf.ev hz,asInt,asIntOf,Sem.run_bind,run_underlying hu,Result.andThen_ok,hi,hsz,pure_bind,Sem.run_pure,hw,newRow];have hmc':=hmc;simp only[List.size_toArray]at hmc';rw[←hmc']
  have hmz2: ¬(m=0∨zs=[]):=by
   rintro(h|h)
   · exact hmz (by simp[h])
   · exact hmz (by simp[h])
  simp[hm0,hbb,hsz,hmz2,hzv,hzs];exact fun h=>absurd h hmz
theorem ev_lookup2s [Env]{T K E:TypeId}{x y:Operand}{b c:Nat}{kv:Kv}{k:Int}{z v:Value}(hg:mget kv k=some v)(hx:ev l x=some (.map (some b)))(hy:ev l y=some (.int .i64 k))(hu:P.underlying T=some (.map K E))(hK:P.underlying K=some (.int .i64))
  (hz: ∀w,(zeroValue E).run P w= .ok z w) (hi:In L (so b (.map (ents kv) c))):
  Ev P n ⟨d,.lookup T x y true,ty,pos,af,g⟩ l L (.tuple [v,.bool true].toArray):=by
 have:=ev_lookup2 (n:=n) (d:=d) (ty:=ty) (pos:=pos) (af:=af) (g:=g) hx hy hu hK hz hi;rw[hg]at this;exact this
theorem ev_lookup2n [Env]{T K E:TypeId}{x y:Operand}{b c:Nat}{kv:Kv}{k:Int}{z:Value}(hg:mget kv k=none)(hx:ev l x=some (.map (some b)))(hy:ev l y=some (.int .i64 k))(hu:P.underlying T=some (.map K E))(hK:P.underlying K=some (.int .i64))
  (hz: ∀w,(zeroValue E).run P w= .ok z w) (hi:In L (so b (.map (ents kv) c))):
  Ev P n ⟨d,.lookup T x y true,ty,pos,af,g⟩ l L (.tuple [z,.bool false].toArray):=by
 have:=ev_lookup2 (n:=n) (d:=d) (ty:=ty) (pos:=pos) (af:=af) (g:=g) hx hy hu hK hz hi;rw[hg]at this;exact this
/-- A store of a whole block. -/
theorem ac_storeAll [Env]{t:TypeId}{x z:Operand}{b k:Nat}{vs us:List Value}{T:TypeId}{L':List Seg}(hx:ev l x=some (.pointer (some ⟨b,0,none⟩)))(hz:ev l z=some (.agg us.toArray))
  (h1: ∀u∈us,u.oneCell'=true) (hs: ∀w,(sizeOf t).run P w= .ok k w) (r:Rp L (sc b vs T) (sc b us T) L') (hk:us.length=k) (hv:vs.length=k):
  Ac P n ⟨d,.store t x z,ty,pos,af,g⟩ l L (KTo L'):=
 ac_storeN hx hz h1 hs r hk (by omega) (by simp;omega)
/-- 'clear(xs)' of a slice that is a whole block. -/
theorem zeroCells_reps(zs:List Value)(m:Nat)(h:0<zs.length):(Builtin.zeroCells zs.toArray m).toList=reps m zs:=by
 unfold Builtin.zeroCells;have:=made_cells m zs h;simp only[List.size_toArray]at this;simp only[List.size_toArray,this]
theorem run_eqLnil{t e:TypeId}(a:Option Addr)(p c:Nat)(hu:P.underlying t=some (.slice e))(w:World):(binOp .eql t (.slice a p c) (.slice none 0 0)).run P w= .ok (.bool a.isNone) w:=
 Lib.run_eql_slice_nil w t e a p c 0 0 hu
theorem ev_eqlLnil [Env]{t t' e:TypeId}{x z:Operand}{a:Option Addr}{p c:Nat}(hx:ev l x=some (.slice a p c))(hz:ev l z=some (.slice none 0 0))(hu:P.underlying t=some (.slice e)):
  Ev P n ⟨d,.binOp .eql t x z t',ty,pos,af,g⟩ l L (.bool a.isNone):=
 fun b w hf _=>by simp[execOp,hf.ev hx,hf.ev hz,eqGuard,run_eqLnil a p c hu]
/-- '[]T{}': a block of no cells. -/
theorem ac_bslice0 [Env]{t e s:TypeId}(hu:P.underlying t=some (.slice e))(hs: ∀w,(sizeOf e).run P w= .ok s w):
  Ac P n ⟨d,.buildSlice t 0 #[],ty,pos,af,g⟩ l L (fun v L'=> ∃b,v=svVal (some (b,0,[])) 0∧L'=svSeg (some (b,0,[])) e []::L):=by
 intro a w hf hh;refine⟨_,_,_,.inl ?_,⟨w.heap.size,rfl,rfl⟩,hh.alloc (.cells #[] e)⟩;have:Array.range 0= #[]:=Array.eq_empty_of_size_eq_zero (by simp);simp[execOp,Instr.buildSlice,run_underlying hu,hs,Instr.fill,newRow,svVal];rw[this,Array.map_empty]
def stamped(kv:Kv)(c:Nat):Prop:=(∀x∈kv,x.2.2<c)∧(kv.map (·.2.2)).Nodup
def left(kv:Kv)(seen:List Nat):Kv:=kv.filter fun x=> !seen.contains x.2.2
theorem ac_range [Env]{T K E:TypeId}{x:Operand}{b c:Nat}{kv:Kv}(hx:ev l x=some (.map (some b)))(hu:P.underlying T=some (.map K E))(hi:In L (so b (.map (ents kv) c))):
  Ac P n ⟨d,.range T x,ty,pos,af,g⟩ l L (fun v L'=> ∃i,v= .pointer (some ⟨i,0,none⟩)∧L'=so i (.mapIter (some b) c #[] c)::L):=by
 intro a w hf hh;refine⟨_,_,_,.inl ?_,⟨w.heap.size,rfl,rfl⟩,hh.alloc (.mapIter (some b) c #[] c)⟩;simp[execOp,Instr.range,hf.ev hx,run_underlying hu,run_getObj (hh.obj hi)]
theorem run_getObjI{w:World}{b:Nat}{m:Option Nat}{s t:Nat}{q:Array Nat}(h:w.heap[b]? =some (.mapIter m s q t)):(getObj b).run P w= .ok (.mapIter m s q t) w:=by
 simp[getObj,Sem.run,h]
theorem run_setObjI{w:World}{b:Nat}{m:Option Nat}{s t:Nat}{q:Array Nat}{o:Obj}(h:w.heap[b]? =some (.mapIter m s q t)):(setObj b o).run P w= .ok () (setB w b o):=by
 simp[setObj,Sem.run,h,setB]
/-- One step: over, or some entry that wasn't there yet. -/
def KNext(kv:Kv)(seen:List Nat)(L:List Seg)(Lx:Int × Value × Nat→List Seg)(v:Value)(L':List Seg):Prop:=
 (left kv seen=[]∧v= .tuple [.bool false].toArray∧L'=L)∨
 (∃x,x∈left kv seen∧v= .tuple [.bool true,.int .i64 x.1,x.2.1].toArray∧L'=Lx x)
theorem left_ents(kv:Kv)(seen:List Nat):((ents kv).filter fun e=> !seen.toArray.contains e.born)=ents (left kv seen):=by
 unfold ents left;rw[←Array.toList_inj];simp[List.filter_map];congr 1
theorem ac_next [Env]{x:Operand}{b c i:Nat}{kv:Kv}{seen:List Nat}(hx:ev l x=some (.pointer (some ⟨i,0,none⟩)))(hii:In L (so i (.mapIter (some b) c seen.toArray c)))(hi:In L (so b (.map (ents kv) c)))(hst:stamped kv c)
  {Lx:Int × Value × Nat→List Seg} (hr: ∀x,Rp L (so i (.mapIter (some b) c seen.toArray c)) (so i (.mapIter (some b) c (seen++[x.2.2]).toArray c)) (Lx x)):
  Ac P n ⟨d,.next x false,ty,pos,af,g⟩ l L (KNext kv seen L Lx):=by
 intro a w hf hh;have hI:=hh.obj hii;have hM:=hh.obj hi
 have hall: ¬((!seen.toArray.isEmpty&& !(ents kv).isEmpty&&(ents kv).all fun e=>decide (e.born≥c))=true):=by
  intro h;simp only[Bool.and_eq_true,Bool.not_eq_true',Array.all_eq_true_iff_forall_mem]at h;obtain⟨⟨_,h2⟩,h3⟩:=h;cases kv with
  |nil=>simp[ents]at h2
  |cons y kv=>
   have:=h3 (ent y) (by simp[ents]);have h4:=hst.1 y (by simp);simp[ent]at this;omega
 have hold:((ents (left kv seen)).filter fun e=>decide (e.born<c))=ents (left kv seen):=by
  rw[Array.filter_eq_self];intro e he;simp only[ents,List.mem_toArray,List.mem_map]at he;obtain⟨y,hy,rfl⟩:=he;exact decide_eq_true (hst.1 y ((List.mem_filter.1 hy).1))
 have hnew:((ents (left kv seen)).filter fun e=>decide (e.born≥c))= #[]:=by
  rw[Array.filter_eq_empty_iff];intro e he;simp only[ents,List.mem_toArray,List.mem_map]at he;obtain⟨y,hy,rfl⟩:=he;have:=hst.1 y ((List.mem_filter.1 hy).1);simp[ent];omega
 simp only[execOp,hf.ev hx,Instr.next,Sem.run_bind,run_getObjI hI,Result.andThen_ok,run_getObj hM];rw[if_neg hall];simp only[Sem.run_bind,Sem.run_pure,Result.andThen_ok,left_ents,hold,hnew,Array.append_empty];cases hl:left kv seen with
 |nil=>
  refine⟨.tuple [.bool false].toArray,w,L,.inl ?_,.inl ⟨hl,rfl,rfl⟩,hh⟩;simp[ents,Question.forced]
 |cons y ys=>
  have hne:(ents (y::ys)).isEmpty=false:=by simp[ents]
  simp only[hne,if_false,Bool.false_eq_true,Array.empty_append,Array.size_map]
  -- which one
  have hsz:(ents (y::ys)).size=ys.length+1:=by simp[ents]
  have pick: ∀(k:Nat) (w':World),k<ys.length+1→w'.heap=w.heap→(EnvOk w→EnvOk w')→ ∃v w'' L',((do
      match ((ents (y::ys)).map some)[k]? with
      |some (some e)=>do
       setObj i (.mapIter (some b) c (seen.toArray.push e.born) c)
       pure (.tuple #[.bool true,e.key,e.val])
      |some none=>pure (.tuple #[.bool false])
      | none => stuck "Next: no such candidate" : Sem Value).run P w') = .ok v w'' ∧ KNext kv seen L Lx v L' ∧ Has w'' L' := by
   intro k w' hk hw' hwe;have hI':w'.heap[i]? =some (.mapIter (some b) c seen.toArray c):=by rw[hw'];exact hI
   have hg:(y::ys)[k]? =some ((y::ys)[k]'(by simpa using hk)):=List.getElem?_eq_getElem (by simpa using hk)
   generalize hz:(y::ys)[k]'(by simpa using hk)=z at hg;have hmem:z∈left kv seen:=by rw[hl,←hz];exact List.getElem_mem _
   refine⟨.tuple [.bool true,.int .i64 z.1,z.2.1].toArray,setB w' i (.mapIter (some b) c (seen++[z.2.2]).toArray c),Lx z,?_,.inr ⟨z,hmem,rfl,rfl⟩,(hh.of_heap hw' hwe).setB (hr z)⟩
   have e1:((ents (y::ys)).map some)[k]? =some (some (ent z)):=by
    rw[Array.getElem?_map]
    have:(ents (y::ys))[k]? =some (ent z):=by
     show((y::ys).map ent).toArray[k]? =_;rw[List.getElem?_toArray,List.getElem?_map,hg];rfl
    rw[this];rfl
   simp only[e1,Sem.run_bind,run_setObjI hI',Result.andThen_ok,Sem.run_pure];simp[ent]
  by_cases hf1:(Question.mapNext (ents (y::ys)).size).forced=true
  ·obtain⟨v,w'',L',h1,h2,h3⟩:=pick 0 w (by omega) rfl id;refine⟨v,w'',L',.inl ?_,h2,h3⟩;simp only[run_choose,hf1,if_true,Result.andThen_ok];exact congrArg (fun r=>Result.andThen r _) h1
  ·have hcut:(Question.mapNext (ents (y::ys)).size).cut (w.tape w.drawn (.mapNext (ents (y::ys)).size))<ys.length+1:=by
    simp only[Question.cut,hsz];exact Nat.mod_lt _ (by omega)
   obtain⟨v,w'',L',h1,h2,h3⟩:=pick _ {w with drawn:=w.drawn+1} hcut rfl id;refine⟨v,w'',L',.inl ?_,h2,h3⟩;simp only[run_choose,hf1,Bool.false_eq_true,if_false,Result.andThen_ok];exact congrArg (fun r=>Result.andThen r _) h1
theorem left_lt{kv:Kv}{seen:List Nat}{x:Int × Value × Nat}(hx:x∈left kv seen):(left kv (seen++[x.2.2])).length<(left kv seen).length:=by
 have h1:left kv (seen++[x.2.2])=(left kv seen).filter fun y=> !(y.2.2==x.2.2):=by
  unfold left;rw[List.filter_filter];apply List.filter_congr;intro y _
  by_cases h:y.2.2=x.2.2<;>simp[h]
 rw[h1]
 have: ∀(q:Kv),x∈q→(q.filter fun y=> !(y.2.2==x.2.2)).length<q.length:=by
  intro q
  induction q with
  |nil=>intro h;cases h
  |cons z q ih=>
   intro h;have hle:=List.length_filter_le (fun y:Int × Value × Nat=> !(y.2.2==x.2.2)) q
   by_cases e:z.2.2=x.2.2
   ·rw[List.filter_cons_of_neg (by simp[e])];simp only[List.length_cons];omega
   ·rcases List.mem_cons.1 h with h|h
    ·subst h;exact absurd rfl e
    ·have:=ih h;rw[List.filter_cons_of_pos (by simpa using e)];simp only[List.length_cons];omega
 exact this _ hx
theorem left_mem{kv:Kv}{seen:List Nat}{x:Int × Value × Nat}(hx:x∈left kv seen):x∈kv:=(List.mem_filter.1 hx).1
theorem ev_entry [Env]{x:Operand}{b c i:Nat}{kv:Kv}{seen:List Nat}{y:Int × Value × Nat}(hx:ev l x=some (.pointer (some ⟨i,0,none⟩)))(hii:In L (so i (.mapIter (some b) c (seen++[y.2.2]).toArray c)))(hi:In L (so b (.map (ents kv) c)))(hst:stamped kv c)(hy:y∈kv):
  Ev P n ⟨d,.entry x,ty,pos,af,g⟩ l L (.tuple [.int .i64 y.1,y.2.1].toArray):=by
 intro a w hf hh;have hI:=hh.obj hii;have hM:=hh.obj hi
 have hfind:(ents kv).find? (fun e=>e.born==y.2.2)=some (ent y):=by
  have: ∀(q:Kv),(q.map (·.2.2)).Nodup→y∈q→(q.map ent).find? (fun e=>e.born==y.2.2)=some (ent y):=by
   intro q
   induction q with
   |nil=>intro _ h;cases h
   |cons z q ih=>
    intro hn h
    by_cases e:z.2.2=y.2.2
    ·have hzy:z=y:=by
      rcases List.mem_cons.1 h with h|h
      · exact h.symm
      · exact absurd (List.mem_map.2 ⟨y,h,e.symm⟩) (List.nodup_cons.1 hn).1
     subst hzy;simp[ent]
    ·have hm:y∈q:=by
      rcases List.mem_cons.1 h with h|h
      · subst h;exact absurd rfl e
      · exact h
     have:=ih (List.nodup_cons.1 hn).2 hm;simp only[List.map_cons,List.find?_cons];rw[show((ent z).born==y.2.2)=false by simpa[ent]using e];exact this
  simpa[ents]using this kv hst.2 hy
 simp[execOp,hf.ev hx,Instr.entry,run_getObjI hI,run_getObj hM,hfind];simp[ent]
end
end Go.Sl
/- The model of a device: raw, as it lies; plain Lean. -/
namespace Go.Sl
abbrev Bytes:=List UInt8
def zsec:Bytes:=List.replicate 144 0
@[simp] theorem zsec_length:zsec.length=144:=by simp[zsec]
def pad(bs:Bytes):Bytes:=bs++List.replicate (144-bs.length) 0
theorem pad_length{bs:Bytes}(h:bs.length≤144):(pad bs).length=144:=by simp[pad];omega
abbrev Es:=List (Int × Bytes × Nat)
def kvs(es:Es):Kv:=es.map fun x=>(x.1,.agg (bytesV x.2.1).toArray,x.2.2)
def eget(es:Es)(k:Int):Option Bytes:=(es.find? (fun x=>decide (x.1=k))).map (·.2.1)
def eset(es:Es)(k:Int)(s:Bytes):Es:=es.map fun x=>if x.1=k then(k,s,x.2.2)else x
def ehas(es:Es)(k:Int):Bool:=es.any fun x=>decide (x.1=k)
def eput(es:Es)(c:Nat)(k:Int)(s:Bytes):Es:=if ehas es k then eset es k s else es++[(k,s,c)]
def eclk(es:Es)(c:Nat)(k:Int):Nat:=if ehas es k then c else c+1
structure Dev where
 l:List Bytes
 es:Es
 clk:Nat
 dead:Bool
 fuse:Int
structure Dev.ok(D:Dev):Prop where
 n:D.l.length≤512
 sec: ∀s∈D.l,s.length=144
 esec: ∀x∈D.es,x.2.1.length=144
 keys: ∀x∈D.es,0≤x.1∧x.1<D.l.length
 uniq:(D.es.map (·.1)).Nodup
 born: ∀x∈D.es,x.2.2<D.clk
 once:(D.es.map (·.2.2)).Nodup
 fuse: -1≤D.fuse∧D.fuse≤9223372036854775807
def Dev.act(D:Dev):Int × Dev:=if D.fuse=0 then(30,{D with dead:=true})else(0,if 0<D.fuse then{D with fuse:=IntKind.i64.wrap (D.fuse- 1)}else D)
def Dev.has(D:Dev)(i:Int):Int:=if D.dead=true then 30 else if i<0∨(D.l.length:Int)≤i then 2 else 0
def Dev.write(D:Dev)(i:Int)(bs:Bytes):Int × Dev:=
 if D.has i≠0 then(D.has i,D)else if(144:Int)<bs.length then(3,D)else if D.act.1≠0 then D.act else
 (0,{D.act.2 with es:=eput D.act.2.es D.act.2.clk i (pad bs),clk:=eclk D.act.2.es D.act.2.clk i})
def settleD(es:Es)(l:List Bytes):List Bytes:=es.foldl (fun l x=>l.set x.1.toNat x.2.1) l
def Dev.barrier(D:Dev):Int × Dev:=
 if D.dead=true then(30,D)else if D.act.1≠0 then D.act else(0,{D.act.2 with l:=settleD D.act.2.es D.act.2.l,es:=[]})
def Dev.sec(D:Dev)(i:Int):Bytes:=(eget D.es i).getD ((D.l[i.toNat]?).getD zsec)
def Dev.new(n:Nat):Dev:=⟨List.replicate n zsec,[],0,false,-1⟩
@[simp] theorem act_l{D:Dev}:D.act.2.l=D.l:=by unfold Dev.act;split<;>(try split)<;>rfl
@[simp] theorem act_es{D:Dev}:D.act.2.es=D.es:=by unfold Dev.act;split<;>(try split)<;>rfl
@[simp] theorem act_clk{D:Dev}:D.act.2.clk=D.clk:=by unfold Dev.act;split<;>(try split)<;>rfl
theorem copy_pad{bs:Bytes}(h:bs.length≤144):(bytesV zsec).take 0++bytesV (bs.take (min bs.length 144))++(bytesV zsec).drop (0+min bs.length 144)=bytesV (pad bs):=by
 have:min bs.length 144=bs.length:=by omega
 rw[this];have e:bytesV zsec=List.replicate 144 (Value.int .u8 0):=by simp only[bytesV,zsec,List.map_replicate];rfl
 rw[e,List.drop_replicate];simp only[pad,bytesV,List.map_append,List.map_replicate,List.take_length,List.take_zero,List.nil_append,Nat.zero_add];rfl
def flat(l:List Bytes):List Value:=(l.map bytesV).flatten
theorem flat_length: ∀{l:List Bytes},(∀s∈l,s.length=144)→(flat l).length=l.length*144
 | [],_=>by simp[flat]
 |s::l,h=>by
  have ih:=flat_length (l:=l) (fun t ht=>h t (by simp[ht]));have hs:=h s (by simp);simp only[flat,List.map_cons,List.flatten_cons,List.length_append,bytesV_length,List.length_cons]at ih ⊢;omega
theorem flat_get: ∀{l:List Bytes},(∀s∈l,s.length=144)→ ∀{i:Nat} {s:Bytes},l[i]? =some s→((flat l).drop (i*144)).take 144=bytesV s
 | [],_,i,s,h=>by simp at h
 |t::l,h,i,s,hi=>by
  have ht:=h t (by simp);cases i with
  |zero=>
   simp at hi;subst hi;simp only[flat,List.map_cons,List.flatten_cons,Nat.zero_mul,List.drop_zero];rw[List.take_append_of_le_length (by simp[ht])];exact List.take_of_length_le (by simp[ht])
  |succ i=>
   have ih:=flat_get (l:=l) (fun u hu=>h u (by simp[hu])) (i:=i) (s:=s) (by simpa using hi);simp only[flat,List.map_cons,List.flatten_cons]at ih ⊢;rw[List.drop_append,List.drop_eq_nil_of_le (by simp only[bytesV_length,ht];omega)];simp only[bytesV_length,List.nil_append,ht];rw[show(i+1)*144- 144=i*144 by omega];exact ih
theorem flat_set: ∀{l:List Bytes},(∀s∈l,s.length=144)→ ∀{i:Nat} {s:Bytes},i<l.length→(flat l).take (i*144)++bytesV s++(flat l).drop (i*144+144)=flat (l.set i s)
 | [],_,i,s,h=>by simp at h
 |t::l,h,i,s,hi=>by
  have ht:=h t (by simp);cases i with
  |zero=>
   simp only[flat,List.map_cons,List.flatten_cons,Nat.zero_mul,List.take_zero,List.nil_append,Nat.zero_add,List.set_cons_zero];rw[List.drop_append,List.drop_eq_nil_of_le (by simp[ht])];simp[ht]
  |succ i=>
   have ih:=flat_set (l:=l) (fun u hu=>h u (by simp[hu])) (i:=i) (s:=s) (by simpa using hi);simp only[flat,List.map_cons,List.flatten_cons,List.set_cons_succ]at ih ⊢;rw[←ih,List.take_append,List.drop_append,List.drop_eq_nil_of_le (by simp only[bytesV_length,ht];omega),List.take_of_length_le (by simp only[bytesV_length,ht];omega)];simp only[bytesV_length,ht,List.nil_append,List.append_assoc];rw[show(i+1)*144- 144=i*144 by omega,show(i+1)*144+144- 144=i*144+144 by omega]
theorem flat_reps(n:Nat):flat (List.replicate n zsec)=reps n (bytesV zsec):=by simp[flat,reps]
theorem kvs_any(es:Es)(k:Int):(kvs es).any (fun x=>decide (x.1=k))=ehas es k:=by simp[kvs,ehas,List.any_map,Function.comp_def]
theorem kvs_put(es:Es)(c:Nat)(k:Int)(s:Bytes):mput (kvs es) c k (.agg (bytesV s).toArray)=kvs (eput es c k s):=by
 unfold mput eput;rw[kvs_any];split
 ·simp only[mset,kvs,eset,List.map_map];apply List.map_congr_left;intro x _;simp only[Function.comp];split<;>simp_all
 ·simp[kvs]
theorem kvs_clk(es:Es)(c:Nat)(k:Int):mclk (kvs es) c k=eclk es c k:=by unfold mclk eclk;rw[kvs_any]
theorem kvs_get(es:Es)(k:Int):mget (kvs es) k=(eget es k).map fun s=> .agg (bytesV s).toArray:=by
 unfold mget eget kvs;rw[List.find?_map];simp only[Function.comp_def,Option.map_map]
theorem kvs_uniq{es:Es}(h:(es.map (·.1)).Nodup):uniq (kvs es):=by
 unfold uniq kvs;simpa[List.map_map,Function.comp_def]using h
theorem kvs_stamped{es:Es}{c:Nat}(h: ∀x∈es,x.2.2<c)(h':(es.map (·.2.2)).Nodup):stamped (kvs es) c:=by
 refine⟨fun x hx=>?_,?_⟩
 · obtain⟨y,hy,rfl⟩:=List.mem_map.1 hx;exact h y hy
 · unfold kvs;simpa[List.map_map,Function.comp_def]using h'
theorem left_es{D:Dev}(hD:D.ok){seen:List Nat}{x:Int × Value × Nat}(hx:x∈left (kvs D.es) seen):
  ∃k s b,x=(k,.agg (bytesV s).toArray,b)∧s.length=144∧0≤k∧k<D.l.length∧(k,s,b)∈D.es:=by
 obtain⟨y,hy,rfl⟩:=List.mem_map.1 (left_mem hx);exact⟨y.1,y.2.1,y.2.2,rfl,hD.esec y hy,(hD.keys y hy).1,(hD.keys y hy).2,hy⟩
theorem left_kvs(es:Es)(seen:List Nat):left (kvs es) seen=kvs (es.filter fun y=> !seen.contains y.2.2):=by
 unfold left kvs;rw[List.filter_map];rfl
theorem settle_done{es:Es}{seen:List Nat}{ls:List Bytes}{r:List Bytes}(h:left (kvs es) seen=[])(hs:settleD (es.filter fun y=> !seen.contains y.2.2) ls=r):ls=r:=by
 rw[left_kvs]at h;have:(es.filter fun y=> !seen.contains y.2.2)=[]:=by unfold kvs at h;exact List.map_eq_nil_iff.1 h
 rw[this]at hs;exact hs
theorem settleD_cons(x:Int × Bytes × Nat)(es:Es)(ls:List Bytes):settleD (x::es) ls=settleD es (ls.set x.1.toNat x.2.1):=rfl
@[simp] theorem settleD_length: ∀(es:Es) (ls:List Bytes),(settleD es ls).length=ls.length
 | [],ls=>rfl
 |x::es,ls=>by rw[settleD_cons,settleD_length es];simp
theorem settleD_sec: ∀{es:Es} {ls:List Bytes},(∀x∈es,x.2.1.length=144)→(∀s∈ls,s.length=144)→ ∀s∈settleD es ls,s.length=144
 | [],ls,_,h=>h
 |x::es,ls,he,h=>by
  rw[settleD_cons];refine settleD_sec (fun y hy=>he y (by simp[hy])) ?_;intro t ht;rcases List.mem_or_eq_of_mem_set ht with h1|rfl
  · exact h t h1
  · exact he x (by simp)
@[simp] theorem kvs_nil:kvs []=[]:=rfl
theorem settleD_pull{k:Int}{s:Bytes}{b:Nat}: ∀{es:Es},(es.map (·.1)).Nodup→(es.map (·.2.2)).Nodup→(∀y∈es,0≤y.1)→(k,s,b)∈es→ ∀(ls:List Bytes),settleD (es.filter fun y=> !(y.2.2==b)) (ls.set k.toNat s)=settleD es ls
 | [],_,_,_,h,_=>by cases h
 |y::es,hn,hb,hp,h,ls=>by
  have hn':=List.nodup_cons.1 hn;have hb':=List.nodup_cons.1 hb;rcases List.mem_cons.1 h with rfl|h
  ·have hf:(es.filter fun y=> !(y.2.2==b))=es:=by
    rw[List.filter_eq_self];intro z hz;have:z.2.2≠b:=fun e=>hb'.1 (List.mem_map.2 ⟨z,hz,e⟩)
    simpa using this
   rw[List.filter_cons_of_neg (by simp),hf];rfl
  ·have h1:y.2.2≠b:=fun e=>hb'.1 (List.mem_map.2 ⟨(k,s,b),h,e.symm⟩)
   have h2:y.1≠k:=fun e=>hn'.1 (List.mem_map.2 ⟨(k,s,b),h,e.symm⟩)
   rw[List.filter_cons_of_pos (by simpa using h1),settleD_cons,settleD_cons,List.set_comm]
   ·exact settleD_pull hn'.2 hb'.2 (fun z hz=>hp z (by simp[hz])) h _
   ·have:=hp y (by simp);have:=hp (k,s,b) (by simp[h]);simp only at this;omega
theorem filter_seen(es:Es)(seen:List Nat)(b:Nat):(es.filter fun y=> !(seen++[b]).contains y.2.2)=(es.filter fun y=> !seen.contains y.2.2).filter fun y=> !(y.2.2==b):=by
 rw[List.filter_filter];apply List.filter_congr;intro y _
 by_cases h:y.2.2=b<;>simp[h]
theorem settleD_step{D:Dev}(hD:D.ok){seen:List Nat}{k:Int}{s:Bytes}{b:Nat}{ls:List Bytes}{v:Value}(hx:(k,v,b)∈left (kvs D.es) seen)(hm:(k,s,b)∈D.es){r:List Bytes}
  (h:settleD (D.es.filter fun y=> !seen.contains y.2.2) ls=r):settleD (D.es.filter fun y=> !(seen++[b]).contains y.2.2) (ls.set k.toNat s)=r:=by
 rw[←h,filter_seen];have hb:(!seen.contains b)=true:=(List.mem_filter.1 hx).2;refine settleD_pull ?_ ?_ ?_ (List.mem_filter.2 ⟨hm,hb⟩) ls
 ·exact(List.filter_sublist.map _).nodup hD.uniq
 ·exact(List.filter_sublist.map _).nodup hD.once
 ·intro y hy;exact(hD.keys y (List.mem_filter.1 hy).1).1
theorem set_len{ls:List Bytes}{m:Nat}(h: ∀s∈ls,s.length=m){i:Nat}{s:Bytes}(hs:s.length=m): ∀t∈ls.set i s,t.length=m:=by
 intro t ht;rcases List.mem_or_eq_of_mem_set ht with h1|rfl
 · exact h t h1
 · exact hs
theorem eget_mem{es:Es}{k:Int}{s:Bytes}(h:eget es k=some s): ∃b,(k,s,b)∈es:=by
 unfold eget at h;obtain⟨x,hx,rfl⟩:=Option.map_eq_some_iff.1 h;have h1:=List.mem_of_find?_eq_some hx;have h2:=List.find?_some hx;have h3:x.1=k:=by simpa using h2
 subst h3;exact⟨_,h1⟩
theorem eget_len{D:Dev}(hD:D.ok){k:Int}{s:Bytes}(h:eget D.es k=some s):s.length=144:=by
 obtain⟨b,hb⟩:=eget_mem h;exact hD.esec _ hb
theorem sec_some{D:Dev}{i:Int}{s:Bytes}(h:eget D.es i=some s):D.sec i=s:=by simp[Dev.sec,h]
theorem sec_none{D:Dev}{i:Int}{s:Bytes}(h:eget D.es i=none)(h2:D.l[i.toNat]? =some s):D.sec i=s:=by simp[Dev.sec,h,h2]
theorem sec_length{D:Dev}(hD:D.ok)(i:Int):(D.sec i).length=144:=by
 unfold Dev.sec;cases h:eget D.es i with
 |some s=>obtain⟨b,hb⟩:=eget_mem h;exact hD.esec _ hb
 |none=>
  cases h2:D.l[i.toNat]? with
  |none=>simp
  |some s=>exact hD.sec s (List.mem_of_getElem? h2)
theorem has_zero{D:Dev}{i:Int}(h:D.has i=0):D.dead=false∧0≤i∧i<D.l.length:=by
 unfold Dev.has at h;split at h
 ·simp at h
 ·rename_i hd
  split at h
  ·simp at h
  ·rename_i h2
   exact⟨by simpa using hd,by omega,by omega⟩
theorem at_some{l:List Bytes}{i:Int}(h0:0≤i)(h1:i<l.length): ∃s,l[i.toNat]? =some s:=
 ⟨_,List.getElem?_eq_getElem (by omega)⟩
/-- 'v' is a slice of bytes that reads as bs, in every world in which R lies. -/
def RdB [Env](R:List Seg)(v:Value)(bs:Bytes):Prop:=
 (v= .slice none 0 0∧bs=[])∨ ∃a c,v= .slice (some a) bs.length c∧ ∀w,Has w R→ ∀j (h:j<bs.length),w.cell? (a.add j)=some (.int .u8 bs[j].toNat)
theorem RdB.mono [Env]{R R':List Seg}{v:Value}{bs:Bytes}(h:RdB R v bs)(hg:Ge R' R):RdB R' v bs:=by
 rcases h with h|⟨a,c,h1,h2⟩
 · exact .inl h
 · exact .inr ⟨a,c,h1,fun w hh=>h2 w (hg.has hh)⟩
theorem rdB_in [Env]{L:List Seg}{b o m c:Nat}{vs:List Value}{T:TypeId}{fr:Nat × Nat}{bs:Bytes}(hi:In L (so b (.cells vs.toArray T fr)))(hm:m=bs.length)(hv:(vs.drop o).take m=bytesV bs):
  RdB L (.slice (some ⟨b,o,none⟩) m c) bs:=by
 subst hm;refine .inr ⟨_,c,rfl,fun w hh j hj=>?_⟩;rw[add_lit];refine cell_at hh hi ?_;have h2:((vs.drop o).take bs.length)[j]? =(bytesV bs)[j]? :=by rw[hv]
 rw[List.getElem?_take,if_pos hj,List.getElem?_drop]at h2;rw[h2];simp[bytesV,hj]
theorem rdB_sv [Env]{L:List Seg}{s:Sv}{e:TypeId}{bs:Bytes}(hi:In L (svSeg s e (bytesV bs)))(hok:svOk s bs.length 1 (bytesV bs)):RdB L (svVal s bs.length) bs:=by
 cases s with
 |none=>
  obtain⟨h1,h2⟩:=hok;have:bs=[]:=List.eq_nil_of_length_eq_zero h1;subst this;exact .inl ⟨rfl,rfl⟩
 |some p=>exact rdB_in hi rfl (by simp)
theorem RdB.lenVal [Env]{R:List Seg}{v:Value}{bs:Bytes}(h:RdB R v bs): ∃b c,v= .slice b bs.length c:=by
 rcases h with⟨rfl,rfl⟩|⟨a,c,rfl,_⟩
 · exact⟨none,0,rfl⟩
 · exact⟨some a,c,rfl⟩
section
variable {P : Program} {n : Nat} {l : List (Nat × Value)} {L : List Seg} {d : Option Tmp} {ty : TypeId} {pos : String} {af : Array Edge} {g : Option (Nat × Bool)}
theorem ev_lenB [Env]{x:Operand}{t:TypeId}{T e:TypeId}{v:Value}{bs:Bytes}(hx:ev l x=some v)(hu:P.underlying T=some (.slice e))(hb: ∃b c,v= .slice b bs.length c):
  Ev P n ⟨d,.call {callee:= .builtin .len,args:= #[x],argTypes:= #[T]},t,pos,af,g⟩ l L (.int .i64 bs.length):=by
 obtain⟨b,c,rfl⟩:=hb;exact ev_len hx hu
theorem RdB.first [Env]{R:List Seg}{v:Value}{bs:Bytes}(h:RdB R v bs)(k:Nat)(hk:k≤bs.length){w:World}(hh:Has w R):(Builtin.firstCells 1 k v).run P w= .ok (bytesV (bs.take k)).toArray w:=by
 rcases h with⟨rfl,rfl⟩|⟨a,c,rfl,h2⟩
 ·simp[Builtin.firstCells,bytesV]
 ·have hl:=run_loadCells_list (P:=P) w a (bytesV (bs.take k)) (fun j v hj=>by
   have hj':=(List.getElem?_eq_some_iff.1 hj).1;simp at hj';rw[h2 w hh j (by omega)];rw[←hj];simp[bytesV,hj',show j<bs.length by omega])
  have:(bytesV (bs.take k)).length=k:=by simp;omega
  rw[this]at hl;simp[Builtin.firstCells,hl]
theorem RdB.src [Env]{R:List Seg}{v:Value}{bs:Bytes}(h:RdB R v bs):Src P R 1 v bs.length (bytesV bs):=by
 refine⟨by simp,fun w hh=>⟨?_,?_⟩⟩
 ·obtain⟨p,q,rfl⟩:=h.lenVal;simp[Builtin.lenOf]
 ·have:=h.first (P:=P) bs.length (Nat.le_refl _) hh;simpa using this
theorem ac_copyB [Env]{x z:Operand}{dT sT e:TypeId}{b o dl dc k:Nat}{vs vs':List Value}{T:TypeId}{v:Value}{bs:Bytes}{L':List Seg}
  (hx:ev l x=some (.slice (some ⟨b,o,none⟩) dl dc)) (hz:ev l z=some v) (hu:P.underlying dT=some (.slice e)) (hs: ∀w,(sizeOf e).run P w= .ok 1 w)
  (hb:RdB L v bs) (hk:k=min bs.length dl) (r:Rp L (sc b vs T) (sc b vs' T) L') (ho:o+k≤vs.length) (hv:vs.take o++bytesV (bs.take k)++vs.drop (o+k)=vs'):
  Ac P n ⟨d,.call {callee:= .builtin .copy,args:= #[x,z],argTypes:= #[dT,sT]},ty,pos,af,g⟩ l L (fun v L''=>v= .int .i64 k∧L''=L'):=by
 intro a w hf hh;have hin:In L (sc b vs T):=r.pk.choose_spec.1.in;have hbk:=hh.cells hin;have hl:(bytesV (bs.take k)).length=k:=by simp;omega
 have hst:=run_storeCells_at P b o T (bytesV (bs.take k)) 0 vs.toArray w hbk (by simp at hl ⊢;omega) (bytesV_one _);have e:List.take (o+0) vs.toArray.toList++bytesV (bs.take k)++List.drop (o+0+(bytesV (bs.take k)).length) vs.toArray.toList=vs':=by rw[←hv,hl];simp
 rw[e]at hst;refine⟨_,_,_,.inl ?_,⟨rfl,rfl⟩,hh.setRow r⟩
 have h2:(Builtin.lenOf v).run P w= .ok bs.length w:=by
  obtain⟨p,q,rfl⟩:=hb.lenVal;simp[Builtin.lenOf]
 have h3:=hb.first (P:=P) k (by omega) hh;have h4:Nat.min bs.length dl=k:=hk.symm;simp[execOp,resolve,invoke,builtin,hf.ev hx,hf.ev hz,Builtin.copy_,run_underlying hu,hs,h2,h3,h4,hst,goInt]
theorem ev_loadAll [Env]{t:TypeId}{x:Operand}{b k:Nat}{vs:List Value}{T:TypeId}{fr:Nat × Nat}(hx:ev l x=some (.pointer (some ⟨b,0,none⟩)))
  (ha: ∀w,(isAgg t).run P w= .ok true w) (hs: ∀w,(sizeOf t).run P w= .ok k w) (hi:In L (so b (.cells vs.toArray T fr))) (hk:vs.length=k):
  Ev P n ⟨d,.load t x,ty,pos,af,g⟩ l L (.agg vs.toArray):=
 ev_loadN hx ha hs hi (by simp[←hk]) hk
end
end Go.Sl
namespace Go.Sl
def zig(n:Int):Nat:=if 0≤n then(2*n).toNat else(-2*n- 1).toNat
def zag(u:Nat):Int:=if u % 2=0 then((u / 2:Nat):Int)else-((u / 2:Nat):Int)- 1
theorem zag_zig(n:Int):zag (zig n)=n:=by
 unfold zag zig;split<;>split<;>omega
theorem zig_lt{n:Int}(h1: -9223372036854775808≤n)(h2:n≤9223372036854775807):zig n<18446744073709551616:=by
 unfold zig;split<;>omega
def numB(u:Nat):Bytes:=if u<128 then [UInt8.ofNat u]else UInt8.ofNat (u % 128+128)::numB (u / 128)
termination_by u
decreasing_by omega
def numD:Nat→Bytes→Option (Nat × Bytes)
 |_,[]=>none
 |k,x::r=>if(k=9∧1<x.toNat)∨(0<k∧x.toNat=0)then none else if x.toNat<128 then some (x.toNat,r)else
  match numD (k+1) r with
  |none=>none
  |some q=>some (x.toNat- 128+128*q.1,q.2)
theorem numD_numB(r:Bytes): ∀(u k:Nat),u<2^(64- 7*k)→k≤9→(0<k→0<u)→numD k (numB u++r)=some (u,r):=by
 intro u
 induction u using Nat.strongRecOn with
 |_ u ih=>
  intro k hu hk h0;unfold numB
  by_cases h:u<128
  ·rw[if_pos h];have hb:(UInt8.ofNat u).toNat=u:=by rw[UInt8.toNat_ofNat'];omega
   have h9: ¬((k=9∧1<u)∨(0<k∧u=0)):=by
    rintro(⟨rfl,h1⟩|⟨h1,h2⟩)
    ·simp at hu;omega
    ·have:=h0 h1;omega
   simp only[List.cons_append,List.nil_append,numD,hb];rw[if_neg h9,if_pos h]
  ·rw[if_neg h];have hb:(UInt8.ofNat (u % 128+128)).toNat=u % 128+128:=by rw[UInt8.toNat_ofNat'];omega
   have hk8:k≤8:=by
    rcases Nat.lt_or_ge k 9 with h1|h1
    ·omega
    ·have:k=9:=by omega
     subst this;simp at hu;omega
   have h9: ¬((k=9∧1<u % 128+128)∨(0<k∧u % 128+128=0)):=by omega
   have hu':u / 128<2^(64- 7*(k+1)):=by
    rw[Nat.div_lt_iff_lt_mul (by omega)];have e:2^(64- 7*(k+1))*128=2^(64- 7*(k+1)+7):=by rw[Nat.pow_add]
    rcases Nat.lt_or_ge k 9 with h1|h1
    ·rcases Nat.lt_or_ge (7*(k+1)) 65 with h2|h2
     · rw[e,show 64- 7*(k+1)+7=64- 7*k by omega];exact hu
     · omega
    ·omega
   have:=ih (u / 128) (by omega) (k+1) hu' (by omega) (fun _=>by omega);simp only[List.cons_append,numD,hb];rw[if_neg h9,if_neg (by omega),this];simp only[Option.some.injEq,Prod.mk.injEq,and_true];omega
def numsD:Nat→Bytes→Option (List Int × Bytes)
 |0,r=>some ([],r)
 |n+1,r=>match numD 0 r with
  |none=>none
  |some q=>match numsD n q.2 with
   |none=>none
   |some t=>some (zag q.1::t.1,t.2)
def textD:Bytes→Option (Bytes × Bytes)
 | []=>none
 |x::r=>if 200<x.toNat then none else if r.length<x.toNat then none else some (r.take x.toNat,r.drop x.toNat)
def textsD:Nat→Bytes→Option (List Bytes × Bytes)
 |0,r=>some ([],r)
 |n+1,r=>match textD r with
  |none=>none
  |some q=>match textsD n q.2 with
   |none=>none
   |some t=>some (q.1::t.1,t.2)
structure RecM where
 kind:Int
 nums:List Int
 texts:List Bytes
def headN(h:Nat):Nat:=if 240≤h then 16 else h % 16
def headT(h:Nat):Nat:=if 240≤h then h- 240 else h / 16
def recD:Bytes→Option RecM
 |k::h::r=>if 4<headT h.toNat then none else
  match numsD (headN h.toNat) r with
  |none=>none
  |some q=>match textsD (headT h.toNat) q.2 with
   |none=>none
   |some t=>if t.2=[]then some ⟨k.toNat,q.1,t.1⟩else none
 |_=>none
def headB(n t:Nat):UInt8:=if n=16 then UInt8.ofNat (240+t)else UInt8.ofNat (n+16*t)
def numsB(ns:List Int):Bytes:=ns.flatMap fun n=>numB (zig n)
def textsB(ts:List Bytes):Bytes:=ts.flatMap fun t=>UInt8.ofNat t.length::t
def recB(r:RecM):Bytes:=UInt8.ofNat r.kind.toNat::headB r.nums.length r.texts.length::(numsB r.nums++textsB r.texts)
/-- A record that may be. -/
structure RecM.may(r:RecM):Prop where
 k0:0≤r.kind
 k1:r.kind≤255
 ns:r.nums.length≤16
 ts:r.texts.length≤4
 len: ∀t∈r.texts,t.length≤200
 num: ∀n∈r.nums,-9223372036854775808≤n∧n≤9223372036854775807
theorem numsD_numsB(r:Bytes): ∀(ns:List Int),(∀n∈ns,-9223372036854775808≤n∧n≤9223372036854775807)→numsD ns.length (numsB ns++r)=some (ns,r)
 | [],_=>rfl
 |n::ns,h=>by
  have hn:=h n (by simp);have h1:=numD_numB (numsB ns++r) (zig n) 0 (by have:=zig_lt hn.1 hn.2;simpa using this) (by omega) (by omega);have h2:=numsD_numsB r ns (fun m hm=>h m (by simp[hm]));simp only[numsB,List.flatMap_cons,List.length_cons,numsD,List.append_assoc]at h1 h2 ⊢;rw[h1];simp only;rw[h2];simp only[zag_zig]
theorem textsD_textsB(r:Bytes): ∀(ts:List Bytes),(∀t∈ts,t.length≤200)→textsD ts.length (textsB ts++r)=some (ts,r)
 | [],_=>rfl
 |t::ts,h=>by
  have ht:=h t (by simp);have h2:=textsD_textsB r ts (fun m hm=>h m (by simp[hm]));have hb:(UInt8.ofNat t.length).toNat=t.length:=by rw[UInt8.toNat_ofNat'];omega
  simp only[textsB,List.flatMap_cons,List.length_cons,textsD,List.append_assoc,List.cons_append,textD,hb]at h2 ⊢;rw[if_neg (by omega),if_neg (by simp)];simp only[List.take_left,List.drop_left];rw[h2]
theorem head_n{n t:Nat}(hn:n≤16)(ht:t≤4):headN (headB n t).toNat=n∧headT (headB n t).toNat=t:=by
 unfold headN headT headB
 by_cases h:n=16
 ·rw[if_pos h,UInt8.toNat_ofNat',show(240+t) % 2^8=240+t by omega];rw[if_pos (by omega),if_pos (by omega)];omega
 ·rw[if_neg h,UInt8.toNat_ofNat',show(n+16*t) % 2^8=n+16*t by omega];rw[if_neg (by omega),if_neg (by omega)];omega
theorem recD_recB{r:RecM}(h:r.may):recD (recB r)=some r:=by
 obtain⟨h1,h2⟩:=head_n h.ns h.ts;have hk:(UInt8.ofNat r.kind.toNat).toNat=r.kind.toNat:=by rw[UInt8.toNat_ofNat'];have:=h.k0;have:=h.k1;omega
 have h3:=numsD_numsB (textsB r.texts) r.nums h.num;have h4:=textsD_textsB [] r.texts h.len;rw[List.append_nil]at h4;unfold recB recD;simp only[h1,h2,hk];rw[if_neg (by have:=h.ts;omega),h3];simp only;rw[h4];simp only[if_true];have:((r.kind.toNat:Nat):Int)=r.kind:=by have:=h.k0;omega
 rw[this]
end Go.Sl