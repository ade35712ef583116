/- A part of the proof. -/
import Derived.Test.YtlignadmmopdmaaGreatGB
import Derived.Lib.SlKeysI
import Derived.Shelf.SlIterI.Nil
import Derived.WalkArith
import Derived.Test.YtlignadmmopdmaaGreatGA
import Derived.Recover
import Derived.WideLaws
import Derived.KernelRfl
set_option linter.unusedVariables false
set_option linter.unusedSimpArgs false
set_option linter.constructorNameAsVariable false
namespace Go.Sl
open Go.Maps
abbrev rU:Value→Option (DataW Unit × List MemPlace):=fun _=>some (.nil,[])
def dU(kv:Kv):DataW Unit:= .map ((kv.map fun x=>((Lit.int .i64 x.1,DataW.nil):Lit × DataW Unit)).foldr DataW.insert [])
theorem Ta(kv:Kv):(intKeys (dU kv)).Perm (kv.map (·.1)):=by
 have:=(Go.WideShapes.sorted_perm (kv.map fun x=>((Lit.int .i64 x.1,DataW.nil):Lit × DataW Unit))).map (fun p=>intOf p.1);refine this.trans ?_;rw[List.map_map];exact List.Perm.of_eq (List.map_congr_left fun x _=>rfl)
theorem Tb(kv:Kv):Maps.size (dU kv)=kv.length:=by
 have:=(Go.WideShapes.sorted_perm (kv.map fun x=>((Lit.int .i64 x.1,DataW.nil):Lit × DataW Unit))).length_eq;simpa[Maps.size,dU]using this
theorem abY{P:Program}{K:TypeId}{w:World}{b c:Nat}{kv:Kv}(hK:P.underlying K=some (.int .i64))(h:w.heap[b]? =some (.map (cH kv) c))(gw:stamped kv c)(hq:uniq kv)
  (hk: ∀x∈kv,-9223372036854775808≤x.1∧x.1≤9223372036854775807) (hn:kv.length≤2^40):w.ownsMap P K rU b kv.length (dU kv):=by
 have hwf: ∀x∈kv,(Lit.int .i64 x.1).wf=true:=by
  intro x hx;have:=hk x hx;exact Go.WalkArith.wf_i64 ⟨by omega,by omega⟩
 refine⟨cH kv,c,h,⟨by simp[cH,maxLen];omega,?_,?_⟩,by simp[cH],?_⟩
 ·refine⟨fun x hx=>?_,?_,?_⟩
  ·simp only[cH,List.mem_map]at hx;obtain⟨y,hy,rfl⟩:=hx;exact gw.1 y hy
  ·have:=gw.2;simpa[cH,List.map_map,Function.comp_def,uz]using this
  ·have:(kv.map fun x=>Value.int .i64 x.1).Nodup:=by
    have h2:(kv.map (·.1)).Nodup:=hq;have h3:((kv.map (·.1)).map (Value.int .i64)).Nodup:=List.pairwise_map.2 (h2.imp fun h e=>h (by cases e;rfl));simpa[List.map_map,Function.comp_def]using h3
   simpa[cH,List.map_map,Function.comp_def,uz]using this
 ·intro x hx;simp only[cH,List.mem_map]at hx;obtain⟨y,hy,rfl⟩:=hx;exact⟨(.int .i64 y.1,.nil),by simp[Go.WideElems.rd,uz,keyOf_int_mk hK (hwf y hy)]⟩
 ·unfold dU;congr 2;simp only[cH,List.map_map];apply List.map_congr_left;intro y hy;simp[Go.WideElems.rg,Go.WideElems.rd,uz,keyOf_int_mk hK (hwf y hy)]
def aW(l:List Int):List Value:=l.map (Value.int .i64)
theorem MA{a b:List Int}(h:a.Perm b):a.mergeSort (fun x y=>decide (x≤y))=b.mergeSort (fun x y=>decide (x≤y)):=by
 have hs: ∀l:List Int,(l.mergeSort (fun x y=>decide (x≤y))).Pairwise (fun x y=>decide (x≤y)=true):=fun l=>
  List.pairwise_mergeSort (fun x y z h1 h2=>by simp at*;omega) (fun x y=>by simp;omega) l
 refine List.Perm.eq_of_pairwise ?_ (hs a) (hs b) (((List.mergeSort_perm a _).trans h).trans (List.mergeSort_perm b _).symm)
 intro x y _ _ h1 h2;simp at h1 h2;omega
def keysOf(kv:Kv):List Int:=(kv.map (·.1)).mergeSort (fun x y=>decide (x≤y))
def az.pending(D:az):List Int:=(D.es.map (·.1)).mergeSort (fun x y=>decide (x≤y))
theorem HW(es:Es):keysOf (sY es)=(es.map (·.1)).mergeSort (fun x y=>decide (x≤y)):=by
 unfold keysOf sY;rw[List.map_map];rfl
theorem Fa: ∀(n:Nat) (l:List Int),l.Nodup→(∀x∈l,0≤x∧x<n)→l.length≤n
 |0,l,_,h=>by
  cases l with
  |nil=>simp
  |cons a l=>have:=h a (by simp);omega
 |n+1,l,hd,h=>by
  have h1:=Fa n (l.erase (n:Int)) (hd.erase _) (fun x hx=>by
   have:=h x (List.mem_of_mem_erase hx);have:x≠n:=fun e=>by subst e;exact absurd hx (List.Nodup.not_mem_erase hd)
   omega)
  have:=@List.length_erase Int _ _ (n:Int) l;split at this<;>omega
theorem Wg{D:az}(hD:D.ok):D.es.length≤512:=by
 have:=Fa D.l.length (D.es.map (·.1)) hD.uniq (fun x hx=>by
  obtain⟨y,hy,rfl⟩:=List.mem_map.1 hx;exact hD.keys y hy)
 have:=hD.n;simp at*;omega
theorem TN [Env]{w w':World}{L:List ax}{e:TypeId}{v:Value}{m:Nat}{xs:List Value}(hh:Has w L)(hb:Go.RowKit.Below w.heap.size w w')(hr:w'.ownsRow w.heap.size e 1 v m xs):
  ∃s,v=aG s m∧bW s m 1 xs∧Has w' (aD s e xs::L):=by
 have hold:Has w' L:=⟨⟨hb.os.trans hh.env.1,hb.tape.trans hh.env.2.1,hb.output.trans hh.env.2.2⟩,fun x hx=>by rw[hb.block _ (hh.lt hx)];exact hh.mem x hx,hh.nd⟩;rcases hr with⟨hl,⟨rfl,rfl⟩|⟨g,cap,cur,rfl,hg,hgg,hmc,B8,hcs,agP⟩⟩
 ·have:xs=[]:=List.eq_nil_of_length_eq_zero (by simpa using hl);subst this;exact⟨none,rfl,⟨rfl,rfl⟩,hold.re (by simp[aD])⟩
 ·have af3:cur.toList=xs++cur.toList.drop (m*1):=by rw[←agP];simp
  refine⟨some (g,cap,cur.toList.drop (m*1)),rfl,⟨hmc,B8,hl,by rw[←af3];simpa using hcs⟩,hold.env,?_,?_⟩
  ·intro x hx;simp only[aD,sc,List.flatten_cons,List.cons_append,List.nil_append,List.mem_cons]at hx;rcases hx with rfl|hx
   · rw[←af3];simpa using hgg
   · exact hold.mem x hx
  ·simp only[aD,sc,List.flatten_cons,List.cons_append,List.nil_append,List.map_cons,List.nodup_cons];refine⟨fun hm=>?_,hold.nd⟩;obtain⟨x,hx,e⟩:=List.mem_map.1 hm;have:=hh.lt hx;omega
end Go.Sl
namespace Go.Sl
def sB:Value→Nat
 | .slice (some a) _ _=>a.block
 |_=>0
def sO:Value→Nat
 | .slice (some a) _ _=>a.off
 |_=>0
def cE [Env](R:List ax)(v:Value)(m:Nat)(vs:List Value):Prop:=
 (v= .slice none 0 0∧m=0∧vs=[])∨ ∃a c,v= .slice (some a) m c∧(m≠0→a.spot=none)∧ ∀w,Has w R→ ∀j (h:j<vs.length),w.cell? ⟨a.block,a.off+j,none⟩=some vs[j]
theorem cE.mono [Env]{R R':List ax}{v:Value}{m:Nat}{vs:List Value}(h:cE R v m vs)(hg:Ge R' R):cE R' v m vs:=by
 rcases h with h|⟨a,c,h1,h3,h2⟩
 · exact .inl h
 · exact .inr ⟨a,c,h1,h3,fun w hh=>h2 w (hg.has hh)⟩
theorem cE.bo [Env]{R:List ax}{v:Value}{m:Nat}{vs:List Value}(h:cE R v m vs): ∃b c,v= .slice b m c:=by
 rcases h with⟨rfl,rfl,rfl⟩|⟨a,c,h1,_⟩
 · exact⟨none,0,rfl⟩
 · exact⟨_,c,h1⟩
theorem eh [Env]{L:List ax}{b o m c k:Nat}{vs us:List Value}{T:TypeId}{fr:Nat × Nat}(hi:In L (so b (.cells vs.toArray T fr)))(hk:us.length=k)(hv:(vs.drop o).take k=us):
  cE L (.slice (some ⟨b,o,none⟩) m c) m us:=by
 subst hk;refine .inr ⟨_,c,rfl,fun _=>rfl,fun w hh j hj=>?_⟩;refine nP hh hi ?_;have h2:((vs.drop o).take us.length)[j]? =us[j]? :=by rw[hv]
 rw[List.getElem?_take,if_pos hj,List.getElem?_drop]at h2;show vs[o+j]? =some us[j];rw[h2];simp[hj]
theorem bG [Env]{L:List ax}{s:Sv}{e:TypeId}{m k:Nat}{xs:List Value}(hi:In L (aD s e xs))(cq:bW s m k xs):cE L (aG s m) m xs:=by
 cases s with
 |none=>
  obtain⟨h1,h2⟩:=cq;subst h1;subst h2;exact .inl ⟨rfl,rfl,rfl⟩
 |some p=>exact eh hi rfl (by simp)
theorem cE.bytes [Env]{R:List ax}{v:Value}{bs:Bytes}(h:cE R v bs.length (av bs)):Da R v bs:=by
 rcases h with⟨h1,h2,h3⟩|⟨a,c,h1,h3,h2⟩
 ·exact .inl ⟨h1,List.eq_nil_of_length_eq_zero h2⟩
 ·refine .inr ⟨_,c,h1,fun w hh j hj=>?_⟩;have:=h2 w hh j (by simpa using hj);have hs:=h3 (by omega);rw[show a.add j=⟨a.block,a.off+j,none⟩by cases a;simp at hs;subst hs;exact add_lit _ _ _,this];simp[av]
theorem CN [Env]{R:List ax}:cE R (.slice none 0 0) 0 []:= .inl ⟨rfl,rfl,rfl⟩
section
variable {P : Program} {n : Nat} {l : List (Nat × Value)} {L : List ax} {d : Option Tmp} {ty : TypeId} {pos : String} {af : Array Edge} {g : Option (Nat × Bool)}
theorem bu [Env]{x:Operand}{t:TypeId}{T e:TypeId}{v:Value}{m:Nat}(hx:ev l x=some v)(hu:P.underlying T=some (.slice e))(hb: ∃b c,v= .slice b m c):
  Ev P n ⟨d,.call {callee:= .builtin .len,args:= #[x],argTypes:= #[T]},t,pos,af,g⟩ l L (.int .i64 m):=by
 obtain⟨b,c,rfl⟩:=hb;exact pq hx hu
theorem bH [Env]{x:Operand}{t:TypeId}{T e:TypeId}{s:Sv}{m k:Nat}{xs:List Value}(hx:ev l x=some (aG s m))(hu:P.underlying T=some (.slice e))(cq:bW s m k xs):
  Ev P n ⟨d,.call {callee:= .builtin .len,args:= #[x],argTypes:= #[T]},t,pos,af,g⟩ l L (.int .i64 m):=by
 cases s with
 |none=>obtain⟨rfl,rfl⟩:=cq;exact pq hx hu
 |some p=>exact pq hx hu
theorem jq [Env]{R:List ax}{t u e:TypeId}{x:Operand}{v:Value}{bs:Bytes}(hb:Da R v bs)(hg:Ge L R)(hx:ev l x=some v)
  (ht:P.underlying t=some (.slice e)) (hu:P.underlying u=some .string) (he:P.underlying e=some (.int .u8)):Ev P n ⟨d,.convert t u x,ty,pos,af,g⟩ l L (.string ⟨bs.toArray⟩):=by
 rcases hb with⟨h1,rfl⟩|⟨b,c,h1,h2⟩
 ·subst h1;exact KU hx ht hu he
 ·subst h1;intro a w hf hh;have:=run_convert_bytes_back (P:=P) w t u e b c bs ht he hu (fun j hj=>h2 w (hg.has hh) j hj);simp[execOp,hf.ev hx,this]
theorem Jn [Env]{t t':TypeId}{x y:Operand}{p q:Bytes}(hx:ev l x=some (.string ⟨p.toArray⟩))(hy:ev l y=some (.string ⟨q.toArray⟩)):
  Ev P n ⟨d,.binOp .eql t x y t',ty,pos,af,g⟩ l L (.bool (decide (p=q))):=by
 have h:=Tj (P:=P) (n:=n) (L:=L) (d:=d) (ty:=ty) (pos:=pos) (af:=af) (g:=g) (t:=t) (t':=t') hx hy;rw[Go.ByteArray.toList_mk,Go.ByteArray.toList_mk]at h;have e:(p==q)=decide (p=q):=by by_cases h:p=q<;>simp[h]
 rw[←e];exact h
theorem aE [Env]{t e:TypeId}{m s:Nat}{parts:List (Nat × Operand)}{ps:List (Nat × Value)}{zv:Value}{z vs:List Value}(hp:zJ l parts=some ps)
  (hu:P.underlying t=some (.slice e)) (hs: ∀w,(sizeOf e).run P w= .ok s w) (hz: ∀w,(zeroValue e).run P w= .ok zv w) (hzc:zv.cells=z.toArray) (hzl:z.length=s) (zU:Nat.ble (m*s) 16777216=true) (LC:Nat.blt 0 (m*s)=true)
  (cq:py ((List.range m).map fun i=>(i*s,s)) (bS m z).length ps) (hv:bt ((List.range m).map fun i=>(i*s,s)) (bS m z) ps=vs):
  Ac P n ⟨d,.buildSlice t m parts.toArray,ty,pos,af,g⟩ l L (KSl e m vs L):=by
 refine Kr hp hu hs hz zU LC ?_ cq hv;rw[hzc];have h0:0<m*s:=by simpa using LC
 have h1:0<z.length:=by rw[hzl];exact Nat.pos_of_mul_pos_left h0
 have:=rG m z h1;rw[hzl]at this;exact this
theorem w6{s:Sv}{m k:Nat}{xs:List Value}(h:bW s m k xs)(hm:0<m): ∃b cap sp,s=some (b,cap,sp)∧m≤cap:=by
 cases s with
 |none=>obtain⟨rfl,_⟩:=h;omega
 |some p=>exact⟨p.1,p.2.1,p.2.2,rfl,h.1⟩
theorem aK [Env]{R:List ax}{t e:TypeId}{x y:Operand}{k:IntKind}{m s:Nat}{i:Int}{v:Value}{vs:List Value}(hv:cE R v m vs)(hx:ev l x=some v)(hy:ev l y=some (.int k i))
  (hu:P.underlying t=some (.slice e)) (hs: ∀w,(sizeOf e).run P w= .ok s w) (h0:0≤i) (h1:i<m):
  Ev P n ⟨d,.indexAddr t x y,ty,pos,af,g⟩ l L (.pointer (some ⟨sB v,sO v+i.toNat*s,none⟩)):=by
 rcases hv with⟨_,rfl,_⟩|⟨a,c,h2,h3,_⟩
 ·omega
 ·subst h2
  have e:a=⟨a.block,a.off,none⟩:=by
   have:=h3 (by omega);cases a;simp at this;subst this;rfl
  exact iz (hx.trans (show some (Value.slice (some a) m c)=some (.slice (some ⟨a.block,a.off,none⟩) m c)by rw[←e])) hy hu hs h0 h1
theorem cE.cell [Env]{R:List ax}{m o k:Nat}{v u:Value}{vs:List Value}(hv:cE R v m vs)(hg:Ge L R)(ho:o=sO v+k)(hk:vs[k]? =some u){w:World}(hh:Has w L):w.cell? ⟨sB v,o,none⟩=some u:=by
 subst ho;rcases hv with⟨_,_,rfl⟩|⟨a,c,rfl,_,h2⟩
 ·simp at hk
 ·obtain⟨h3,h4⟩:=List.getElem?_eq_some_iff.1 hk;show w.cell? ⟨a.block,a.off+k,none⟩=some u;rw[h2 w (hg.has hh) k h3,h4]
theorem au [Env]{R:List ax}{t:TypeId}{x:Operand}{m o:Nat}{v u:Value}{vs:List Value}(k:Nat)(hv:cE R v m vs)(hg:Ge L R)(hx:ev l x=some (.pointer (some ⟨sB v,o,none⟩)))
  (ha: ∀w,(isAgg t).run P w= .ok false w) (ho:o=sO v+k) (hk:vs[k]? =some u):Ev P n ⟨d,.load t x,ty,pos,af,g⟩ l L u:=
 fun a w hf hh=>by simp[execOp,Instr.loadAt,hf.ev hx,Instr.sureAddr,loadVar,ha,hv.cell hg ho hk hh]
theorem dB [Env]{R:List ax}{t:TypeId}{x:Operand}{m o q:Nat}{v:Value}{vs us:List Value}(k:Nat)(hv:cE R v m vs)(hg:Ge L R)(hx:ev l x=some (.pointer (some ⟨sB v,o,none⟩)))
  (ha: ∀w,(isAgg t).run P w= .ok true w) (hs: ∀w,(sizeOf t).run P w= .ok q w) (ho:o=sO v+k) (hk:(vs.drop k).take q=us) (hq:us.length=q):Ev P n ⟨d,.load t x,ty,pos,af,g⟩ l L (.agg us.toArray):=by
 intro a w hf hh
 have hl:(loadCells ⟨sB v,o,none⟩ us.length).run P w= .ok us.toArray w:=by
  refine run_loadCells_list w _ us (fun j u hj=>?_);rw[add_lit];refine hv.cell hg (k:=k+j) (by omega) ?_ hh;rw[←hk,List.getElem?_take]at hj;split at hj
  · rwa[List.getElem?_drop]at hj
  · cases hj
 rw[hq]at hl;simp[execOp,Instr.loadAt,hf.ev hx,Instr.sureAddr,loadVar,ha,hs,hl]
end
abbrev dq:=List (Int × Int)
def dS(ks:dq):List Value:=(ks.map fun x=>[Value.int .i64 x.1,Value.int .i64 x.2]).flatten
theorem yh: ∀(ks:dq) (k:Nat) (x:Int × Int),ks[k]? =some x→(dS ks)[k*2]? =some (.int .i64 x.1)∧(dS ks)[k*2+1]? =some (.int .i64 x.2)
 | [],k,x,h=>by simp at h
 |y::ks,0,x,h=>by simp at h;subst h;simp[dS]
 |y::ks,k+1,x,h=>by
  have:=yh ks k x (by simpa using h);rw[show(k+1)*2=k*2+2 by omega,show k*2+2+1=k*2+1+2 by omega];simpa[dS]using this
def pV(n:Int):Nat:=(min (max n 0) 144).toNat
def pI(s:Bytes)(x:Int × Int)(old:Bytes):Bytes:=if x.1=1 then s else if x.1=2 then s.take (pV x.2)++old.drop (pV x.2)else old
def fb(D:az):List Int→dq→List Bytes→List Bytes
 |i::is,x::ks,ls=>fb D is ks (ls.set i.toNat (pI (D.sec i) x (ls[i.toNat]?.getD [])))
 |_,_,ls=>ls
def az.bD(D:az)(ks:dq):az:={D with l:=fb D D.pending ks D.l,es:=[],dead:=false,dA:= -1}
theorem gD(D:az)(ks:dq)(ls:List Bytes):fb D [] ks ls=ls:=by cases ks<;>rfl
theorem kz(D:az)(is:List Int)(ls:List Bytes):fb D is [] ls=ls:=by cases is<;>rfl
theorem pQ(D:az):D.pending.length=D.es.length:=by simp[az.pending]
theorem DU{es:Es}(hu:(es.map (·.1)).Nodup){x:Int × Bytes × Nat}(hx:x∈es):ix es x.1=some x.2.1:=by
 induction es with
 |nil=>cases hx
 |cons y es ih=>
  have hn:=List.nodup_cons.1 hu;unfold ix at ih ⊢
  by_cases e:y.1=x.1
  ·rw[List.find?_cons_of_pos (by simpa using e)];rcases List.mem_cons.1 hx with rfl|h
   · rfl
   · exact absurd (List.mem_map.2 ⟨x,h,e.symm⟩) hn.1
  ·rw[List.find?_cons_of_neg (by simpa using e)];rcases List.mem_cons.1 hx with rfl|h
   · exact absurd rfl e
   · exact ih hn.2 h
theorem Q8{D:az}(hD:D.ok){k:Nat}(hk:k<D.es.length): ∃i s old,D.pending[k]? =some i∧ix D.es i=some s∧0≤i∧i<D.l.length∧s.length=144∧D.l[i.toNat]? =some old:=by
 have hl:k<D.pending.length:=by rw[pQ];exact hk
 have hm:D.pending[k]∈D.es.map (·.1):=(List.mergeSort_perm _ _).mem_iff.1 (List.getElem_mem hl);obtain⟨y,hy,e⟩:=List.mem_map.1 hm;have h1:=hD.keys y hy;obtain⟨old,ho⟩:=BF h1.1 h1.2;exact⟨y.1,y.2.1,old,by rw[List.getElem?_eq_getElem hl,e],DU hD.uniq hy,h1.1,h1.2,hD.xE y hy,ho⟩
theorem DK{D:az}{k:Nat}{i:Int}{x:Int × Int}{ks:dq}{ls:List Bytes}{s old:Bytes}(hi:D.pending[k]? =some i)(hx:ks[k]? =some x)(hs:ix D.es i=some s)(ho:ls[i.toNat]? =some old){r:List Bytes}
  (h:fb D (D.pending.drop k) (ks.drop k) ls=r):fb D (D.pending.drop (k+1)) (ks.drop (k+1)) (ls.set i.toNat (pI s x old))=r:=by
 rw[←h];obtain⟨h1,h2⟩:=List.getElem?_eq_some_iff.1 hi;obtain⟨h3,h4⟩:=List.getElem?_eq_some_iff.1 hx;rw[List.drop_eq_getElem_cons h1,List.drop_eq_getElem_cons h3,h2,h4];simp only[fb,ho,FJ hs,Option.getD_some]
theorem Cq{s old:Bytes}{x:Int × Int}(hs:s.length=144)(ho:old.length=144):(pI s x old).length=144:=by
 unfold pI;split
 ·exact hs
 ·split
  · simp[hs,ho];unfold pV;omega
  · exact ho
theorem Uo{s old:Bytes}{x:Int × Int}(h:x.1=1):pI s x old=s:=if_pos h
theorem Uq{s old:Bytes}{x:Int × Int}(h:x.1=2):pI s x old=s.take (pV x.2)++old.drop (pV x.2):=by
 unfold pI;rw[if_neg (by omega),if_pos h]
theorem Ur{s old:Bytes}{x:Int × Int}(h: ¬x.1=1)(h2: ¬x.1=2):pI s x old=old:=by
 unfold pI;rw[if_neg h,if_neg h2]
theorem RC{α:Type}{ls:List α}{i:Nat}{s:α}(h:ls[i]? =some s):ls.set i s=ls:=by
 obtain⟨h1,rfl⟩:=List.getElem?_eq_some_iff.1 h;simp
theorem VJ(n:Int):(if(144:Int)<(if 0>n then 0 else n)then 144 else if 0>n then 0 else n).toNat=pV n:=by
 unfold pV;split<;>split<;>omega
theorem w7(n:Int):pV n≤144:=by unfold pV;omega
theorem dD(a b:Bytes):av (a++b)=av a++av b:=by simp[av]
theorem vf(a:Bytes)(n:Nat):av (a.take n)=(av a).take n:=by simp[av]
theorem vd(a:Bytes)(n:Nat):av (a.drop n)=(av a).drop n:=by simp[av]
theorem KX{ls:List Bytes}(h: ∀s∈ls,s.length=144){i:Nat}{s old:Bytes}(ho:ls[i]? =some old)(hs:s.length=144){c:Nat}(hc:c≤144):
  (flat ls).take (i*144)++av ((s.take c).take c)++(flat ls).drop (i*144+c)=flat (ls.set i (s.take c++old.drop c)):=by
 have hi:i<ls.length:=(List.getElem?_eq_some_iff.1 ho).1;rw[←sJ h hi,dD,List.take_take,Nat.min_self];have h1:=xJ h ho
 have h2:(flat ls).drop (i*144+c)=av (old.drop c)++(flat ls).drop (i*144+144):=by
  rw[vd,←h1,←List.drop_drop,←List.drop_drop,List.drop_take]
  have e:List.drop 144 (List.drop (i*144) (flat ls))=List.drop (144-c) (List.drop c (List.drop (i*144) (flat ls))):=by
   rw[List.drop_drop (i:=144-c),show c+(144-c)=144 by omega]
  rw[e,List.take_append_drop]
 rw[h2,List.append_assoc,List.append_assoc,List.append_assoc]
theorem Ro [Env]{L:List ax}{b c:Nat}{s:Bytes}{T:TypeId}{fr:Nat × Nat}{n:Int}(hs:s.length=144)(hi:In L (so b (.cells (av s).toArray T fr))):
  Da L (.slice (some ⟨b,0,none⟩) (if(144:Int)<(if 0>n then 0 else n)then 144 else if 0>n then 0 else n).toNat c) (s.take (pV n)):=by
 have:=w7 n;rw[VJ];exact CM hi (by simp[hs];omega) (by simp[vf])
theorem dk{l:List Int}{k:Nat}{i:Int}(h:l[k]? =some i):(aW l)[k]? =some (.int .i64 i):=by simp[aW,h]
end Go.Sl
namespace Go.Sl
theorem bC.via [Env]{P:Program}{f:FuncId}{args:List Value}{pre R Re R':List ax}{post oM:Value→List ax→Prop}(h:bC P f args Re R' oM)
  (h1:(pre++R).flatten.Perm (Re++R').flatten) (h2: ∀v L',oM v L'→ ∃L,post v L∧(L'++R').flatten.Perm (L++R).flatten):bC P f args pre R post:=by
 intro w hh;refine(h w (hh.perm h1)).mono ?_;rintro e w' ⟨v,L',rfl,hp,fU⟩;obtain⟨L,hq,hl⟩:=h2 v L' hp;exact⟨v,L,rfl,hq,fU.perm hl⟩
theorem az.yy{n:Nat}(hn:n≤512):(az.new n).ok:=
 ⟨by simpa[az.new]using hn,by simp[az.new,g8],by simp[az.new],by simp[az.new],by simp[az.new],by simp[az.new],by simp[az.new],by simp[az.new]⟩
theorem az.kd{D:az}(h:D.ok){i:Int}(hi:i≤9223372036854775807):(D.gZ i).ok:=by
 refine⟨h.n,h.sec,h.xE,h.keys,h.uniq,h.born,h.once,?_⟩;simp only[az.gZ];split<;>omega
theorem az.wK{D:az}(h:D.ok):D.act.2.ok:=by
 unfold az.act;split
 ·exact⟨h.n,h.sec,h.xE,h.keys,h.uniq,h.born,h.once,h.dA⟩
 ·split
  ·refine⟨h.n,h.sec,h.xE,h.keys,h.uniq,h.born,h.once,?_⟩;have:=h.dA;rw[wr (by omega) (by omega)];simp only;omega
  ·exact h
theorem km(D:az): ∀(is:List Int) (ks:dq) (ls:List Bytes),(fb D is ks ls).length=ls.length
 | [],ks,ls=>by rw[gD]
 |i::is,[],ls=>rfl
 |i::is,x::ks,ls=>by simp only[fb];rw[km D is ks];simp
theorem xu{D:az}(hD:D.ok): ∀(is:List Int) (ks:dq) (ls:List Bytes),(∀s∈ls,s.length=144)→(∀i∈is,i.toNat<ls.length)→ ∀s∈fb D is ks ls,s.length=144
 | [],ks,ls,h,_=>by rw[gD];exact h
 |i::is,[],ls,h,_=>h
 |i::is,x::ks,ls,h,hi=>by
  simp only[fb];refine xu hD is ks _ (wY h ?_) (fun j hj=>by simpa using hi j (by simp[hj]));have h1:=hi i (by simp);rw[List.getElem?_eq_getElem h1];exact Cq (jm hD i) (h _ (List.getElem_mem h1))
theorem az.xx{D:az}(h:D.ok)(ks:dq):(D.bD ks).ok:=by
 refine⟨by simpa[az.bD,km]using h.n,?_,by simp[az.bD],by simp[az.bD],by simp[az.bD],by simp[az.bD],by simp[az.bD],by simp[az.bD]⟩;refine xu h _ _ _ h.sec (fun i hi=>?_);obtain⟨y,hy,rfl⟩:=List.mem_map.1 ((List.mergeSort_perm _ _).mem_iff.1 hi);have:=h.keys y hy;omega
theorem az.jN{D:az}(h:D.ok)(i:Int)(bs:Bytes):(D.write i bs).2.ok:=by
 unfold az.write;split
 ·exact h
 ·rename_i h0
  split
  ·exact h
  ·rename_i h1
   split
   ·exact az.wK h
   ·have ha:=az.wK h;have h0':D.has i=0:=by simpa using h0
    obtain⟨-,HA,oO⟩:=Er h0';have hp:(pad bs).length=144:=ID (by omega);generalize hE:D.act.2=E at ha;have hl:E.l=D.l:=by rw[←hE];exact Jb
    rw[←hl]at oO;unfold xD GZ
    by_cases hh:we E.es i=true
    ·simp only[hh,if_true]
     have hk:(zI E.es i (pad bs)).map (·.1)=E.es.map (·.1):=by
      simp only[zI,List.map_map];apply List.map_congr_left;intro x _;simp only[Function.comp];split<;>simp_all
     have hb:(zI E.es i (pad bs)).map (·.2.2)=E.es.map (·.2.2):=by
      simp only[zI,List.map_map];apply List.map_congr_left;intro x _;simp only[Function.comp];split<;>simp_all
     refine⟨ha.n,ha.sec,?_,?_,by rw[hk];exact ha.uniq,?_,by rw[hb];exact ha.once,ha.dA⟩
     ·intro x hx;obtain⟨y,hy,rfl⟩:=List.mem_map.1 hx;split
      · exact hp
      · exact ha.xE y hy
     ·intro x hx;obtain⟨y,hy,rfl⟩:=List.mem_map.1 hx;split
      · exact⟨HA,oO⟩
      · exact ha.keys y hy
     ·intro x hx;obtain⟨y,hy,rfl⟩:=List.mem_map.1 hx;have:=ha.born y hy;split<;>exact this
    ·simp only[hh,Bool.false_eq_true,if_false]
     have hn:i∉E.es.map (·.1):=by
      intro hm;obtain⟨y,hy,e⟩:=List.mem_map.1 hm;exact hh (List.any_eq_true.2 ⟨y,hy,by simpa using e⟩)
     have hnb:E.wN∉E.es.map (·.2.2):=by
      intro hm;obtain⟨y,hy,e⟩:=List.mem_map.1 hm;have:=ha.born y hy;omega
     refine⟨ha.n,ha.sec,?_,?_,?_,?_,?_,ha.dA⟩
     ·intro x hx;rcases List.mem_append.1 hx with hx|hx
      · exact ha.xE x hx
      · simp at hx;subst hx;exact hp
     ·intro x hx;rcases List.mem_append.1 hx with hx|hx
      · exact ha.keys x hx
      · simp at hx;subst hx;exact⟨HA,oO⟩
     ·simp only[List.map_append,List.map_cons,List.map_nil];refine List.nodup_append.2 ⟨ha.uniq,by simp,?_⟩;intro a En b hb e;simp at hb;subst hb;subst e;exact hn En
     ·intro x hx;rcases List.mem_append.1 hx with hx|hx
      · have:=ha.born x hx;dsimp only;omega
      · simp at hx;subst hx;simp
     ·simp only[List.map_append,List.map_cons,List.map_nil];refine List.nodup_append.2 ⟨ha.once,by simp,?_⟩;intro a En b hb e;simp at hb;subst hb;subst e;exact hnb En
theorem az.gA{D:az}(h:D.ok):D.aJ.2.ok:=by
 unfold az.aJ;split
 ·exact h
 ·split
  ·exact az.wK h
  ·have ha:=az.wK h;exact⟨by simpa using ha.n,vV ha.xE ha.sec,by simp,by simp,by simp,by simp,by simp,ha.dA⟩
theorem kq{D:az}{i:Int}{bs:Bytes}:(D.write i bs).2.l=D.l:=by
 unfold az.write;split
 ·rfl
 ·split
  ·rfl
  ·split
   · exact Jb
   · simp
end Go.Sl
namespace Go.Sl
def mN(pv:Value):List PanicEntry:=[{v:=pv,recovered:=false}]
def CPP [Env](post:Value→List ax→Prop)(R:List ax)(pv:Value)(bad:List ax→Prop)(e:Ending)(w':World):Prop:=
 (∃v L',e= .returned v∧post v L'∧Has w' (L'++R))∨(∃L',e= .panicked (mN pv)∧bad L'∧Has w' (L'++R))
def Gn [Env](P:Program)(f:FuncId)(args:List Value)(pre R:List ax)(post:Value→List ax→Prop)(pv:Value)(bad:List ax→Prop):Prop:=
 ∀w,Has w (pre++R)→Calls P f args.toArray w (CPP post R pv bad)
section
variable {P : Program} {ops : Array Oper} {n : Nat} {rest : List Oper} {Q : Exit → Act → World → Prop} {l : List (Nat × Value)} {L : List ax}
variable {d : Tmp} {dd : Option Tmp} {op : Op} {ty : TypeId} {pos : String} {af : Array Edge} {g : Option (Nat × Bool)}
theorem I6 [Env]{f:FuncId}{xs:List Operand}{ts:Array TypeId}{args:List Value}{pre R:List ax}{post:Value→List ax→Prop}{pv:Value}{bad:List ax→Prop}(hc:Gn P f args pre R post pv bad)(hx:Ga l xs=some args)
  (bg: ∀(args:Array Value) (w:World),(callFunc f args).run P w= .ok (.enter f args) w) (ht:Tk L pre R) (hd:Nat.blt d n=true)
  (kp: ∀L',bad L'→Sk n (Q (.panic (mN pv))) l (L'++R))
  (k: ∀v L',post v L'→Sy P ops n rest Q ((d,v)::l) (L'++R)):
  Sy P ops n (⟨some d,.call {callee:= .value (.func f),args:=xs.toArray,argTypes:=ts},ty,pos,af,none⟩::rest) Q l L:=by
 intro a w hf hh;refine g5 rfl ?_;unfold Oper.wp
 have hr:(execOp a.eval (⟨some d,.call {callee:= .value (.func f),args:=xs.toArray,argTypes:=ts},ty,pos,af,none⟩:Oper)).run P w= .ok (.enter f args.toArray) w:=by
  have:=mL hf hx;simp[execOp,resolve,Act.eval,Deferred.ofValue,invoke,bg,this]
 rw[hr,Oper.upon_enter];refine(hc w (ht.has hh)).mono ?_;rintro e w' (⟨v,L',rfl,hp,fU⟩|⟨L',rfl,hp,fU⟩)
 ·exact k v L' hp _ w' (hf.put hd v) fU
 ·exact kp L' hp _ w' hf fU
theorem lZ [Env]{f:FuncId}{x:Operand}{xs:List Operand}{ts:Array TypeId}{args caps:List Value}{pre R:List ax}{post:Value→List ax→Prop}(hv:ev l x=some (.func (.func f) #[] caps.toArray))(hc:bC P f (args++caps) pre R post)(hx:Ga l xs=some args)
  (bg: ∀(args:Array Value) (w:World),(callFunc f args).run P w= .ok (.enter f args) w) (ht:Tk L pre R) (hd:Nat.blt d n=true)
  (k: ∀v L',post v L'→Sy P ops n rest Q ((d,v)::l) (L'++R)):
  Sy P ops n (⟨some d,.call {callee:= .value x,args:=xs.toArray,argTypes:=ts},ty,pos,af,none⟩::rest) Q l L:=by
 intro a w hf hh;refine g5 rfl ?_;unfold Oper.wp
 have hr:(execOp a.eval (⟨some d,.call {callee:= .value x,args:=xs.toArray,argTypes:=ts},ty,pos,af,none⟩:Oper)).run P w= .ok (.enter f (args++caps).toArray) w:=by
  have:=mL hf hx;have e:a.eval x= .func (.func f) #[] caps.toArray:=hf.ev hv;simp[execOp,resolve,e,Deferred.ofValue,invoke,bg,this]
 rw[hr,Oper.upon_enter];refine(hc w (ht.has hh)).mono ?_;rintro e w' ⟨v,L',rfl,hp,fU⟩;exact k v L' hp _ w' (hf.put hd v) fU
theorem rX [Env]{x:Operand}{T:TypeId}{v:Value}(hx:ev l x=some (.iface T v))(k:Sk n (Q (.panic (mN (.iface T v)))) l L):
  Sy P ops n (⟨dd,.panic x,ty,pos,af,none⟩::rest) Q l L:=by
 intro a w hf hh;refine g5 rfl ?_;unfold Oper.wp
 have hr:(execOp a.eval (⟨dd,.panic x,ty,pos,af,none⟩:Oper)).run P w= .halt (.panic (.iface T v)) w:=by
  simp[execOp,hf.ev hx,Instr.panic,goPanic]
 rw[hr,Oper.upon_panic];exact k _ w hf hh
theorem rf [Env]{f:FuncId}{fn:Func}{c:Code}{args:List Value}{pre R:List ax}{post:Value→List ax→Prop}{pv:Value}{bad:List ax→Prop}(hf:P.funcs[f]? =some fn)(hn:fn.ntmps=n)(hb:fn.body=some c)(hl:Nat.ble args.length n=true)
  (h:Sc P n c (bodyPost P fn (CPP post R pv bad)) (qW 0 args) (pre++R)):Gn P f args pre R post pv bad:=by
 intro w hh;have hle:=Nat.le_of_ble_eq_true hl;refine calls_of_wp hf hb (h _ w ?_ hh);have:=ml args.toArray fn.ntmps (by simpa[hn]using hle) (qW 0 args) (fun t v ht=>by have:=(mW args 0 t v ht).2;simpa using this);rw[hn]at this ⊢;exact this
theorem z8 [Env]{fn:Func}{R L1:List ax}{post:Value→List ax→Prop}{pv:Value}{bad:List ax→Prop}(hg:Ge L L1)(hp: ∃L',bad L'∧L1=L'++R):
  Sk n (bodyPost P fn (CPP post R pv bad) (.panic (mN pv))) l L:=by
 obtain⟨L',h1,rfl⟩:=hp;exact fun a _ hf hh=>⟨hf.defers,.inr ⟨L',rfl,h1,hg.has hh⟩⟩
theorem Cr [Env]{fn:Func}{R L1:List ax}{post:Value→List ax→Prop}{pv:Value}{bad:List ax→Prop}{t:Tmp}{v:Value}(hr:fn.results= #[.tmp t])(hl:look l t=some v)(hg:Ge L L1)(hp: ∃L',post v L'∧L1=L'++R):
  Sk n (bodyPost P fn (CPP post R pv bad) .ret) l L:=by
 obtain⟨L',h1,rfl⟩:=hp;exact fun a _ hf hh=>⟨hf.defers,v,by rw[results_tmp hr,hf.get t v hl],.inl ⟨v,L',rfl,h1,hg.has hh⟩⟩
end
end Go.Sl
namespace Go.Sl
def xc(v:Value):Prop:= ∀a m c,v= .slice a m c→m≤c
def qB(v:Value)(lo hi s:Nat):Value:=match v with
 | .slice a _ c=>sliced a lo hi c s
 |u=>u
theorem VO{v:Value}(lo:Nat){hi s:Nat}(h:xc v)(hh: ∃b m c,v= .slice b m c∧hi≤m):xc (qB v lo hi s):=by
 obtain⟨b,m,c,rfl,hm⟩:=hh;have:=h b m c rfl;intro a m' c' e;simp only[qB,sliced,Value.slice.injEq]at e;omega
theorem cE.sl [Env]{R:List ax}{v:Value}{m s lo hi:Nat}{vs:List Value}(h:cE R v m vs)(hc:xc v)(hl:lo≤hi)(hm:hi≤m)(hs:vs.length=m*s):
  cE R (qB v lo hi s) (hi-lo) ((vs.drop (lo*s)).take ((hi-lo)*s)):=by
 rcases h with⟨rfl,rfl,rfl⟩|⟨a,c,rfl,h3,h2⟩
 ·have:hi=0:=by omega
  subst this;have:lo=0:=by omega
  subst this;exact .inl ⟨rfl,rfl,by simp⟩
 ·have B8:=hc (some a) m c rfl;refine .inr ⟨if c=lo then a else a.add (lo*s),c-lo,?_,?_,?_⟩
  ·unfold qB sliced
   by_cases e:c=lo<;>simp[e]
  ·intro h0;rw[if_neg (by omega)];unfold Addr.add;split
   ·exact h3 (by omega)
   ·rfl
  ·intro w hw j hj
   have hmul:(hi-lo)*s≤vs.length-lo*s:=by
    rw[hs,←Nat.sub_mul];exact Nat.mul_le_mul_right _ (by omega)
   simp only[List.length_take,List.length_drop]at hj
   by_cases e:c=lo
   ·exfalso;have:hi-lo=0:=by omega
    rw[this]at hj;simp at hj
   ·have hq:=h2 w hw (lo*s+j) (by omega);rw[if_neg e]
    have fZ:(a.add (lo*s)).block=a.block∧(a.add (lo*s)).off=a.off+lo*s:=by
     unfold Addr.add;split
     · rename_i h0;rw[h0];exact⟨rfl,rfl⟩
     · exact⟨rfl,rfl⟩
    rw[fZ.1,fZ.2,show a.off+lo*s+j=a.off+(lo*s+j)by omega,hq];simp
theorem bN(s:Sv)(m:Nat):(aG s m).oneCell'=true:=by cases s<;>rfl
theorem VP{v:Value}{lo hi s m:Nat}(h: ∃b c,v= .slice b m c):(qB v lo hi s).oneCell'=true:=by
 obtain⟨b,c,rfl⟩:=h;rfl
structure oD [Env](R:List ax)(v:Value)(bs:Bytes):Prop where
 rd:cE R v bs.length (av bs)
 cap:xc v
theorem oD.mono [Env]{R R':List ax}{v:Value}{bs:Bytes}(h:oD R v bs)(hg:Ge R' R):oD R' v bs:=⟨h.rd.mono hg,h.cap⟩
theorem oD.sl [Env]{R:List ax}{v:Value}{bs:Bytes}{lo hi:Nat}(h:oD R v bs)(hl:lo≤hi)(hm:hi≤bs.length):oD R (qB v lo hi 1) ((bs.drop lo).take (hi-lo)):=by
 have h1:=h.rd.sl h.cap hl hm (s:=1) (by simp);obtain⟨b,c,e⟩:=h.rd.bo;refine⟨?_,VO lo h.cap ⟨b,_,c,e,hm⟩⟩;have e2:((bs.drop lo).take (hi-lo)).length=hi-lo:=by simp;omega
 rw[e2,vf,vd];simpa using h1
theorem oD.take [Env]{R:List ax}{v:Value}{bs:Bytes}{k:Nat}(h:oD R v bs)(hm:k≤bs.length):oD R (qB v 0 k 1) (bs.take k):=by
 simpa using h.sl (Nat.zero_le k) hm
theorem oD.drop [Env]{R:List ax}{v:Value}{bs:Bytes}{k:Nat}(h:oD R v bs)(hm:k≤bs.length):oD R (qB v k bs.length 1) (bs.drop k):=by
 have:=h.sl hm (Nat.le_refl _)
 rwa[List.take_of_length_le (by simp)]at this
theorem vX{s:Sv}{m k:Nat}{xs:List Value}(h:bW s m k xs):xc (aG s m):=by
 intro a m' c e;cases s with
 |none=>simp only[aG,Value.slice.injEq]at e;omega
 |some p=>obtain⟨b,cap,sp⟩:=p;simp only[aG,Value.slice.injEq]at e;have:=h.1;omega
theorem pT [Env]{L:List ax}{s:Sv}{e:TypeId}{bs:Bytes}(hi:In L (aD s e (av bs)))(cq:bW s bs.length 1 (av bs)):oD L (aG s bs.length) bs:=⟨bG hi cq,vX cq⟩
section
variable {P : Program} {n : Nat} {l : List (Nat × Value)} {L : List ax} {d : Option Tmp} {ty : TypeId} {pos : String} {af : Array Edge} {g : Option (Nat × Bool)}
theorem wQ [Env]{R:List ax}{t e:TypeId}{x z:Operand}{m s:Nat}{k':IntKind}{hi:Int}{v:Value}{vs:List Value}(hv:cE R v m vs)(hc:xc v)(hx:ev l x=some v)(hz:ev l z=some (.int k' hi))
  (hu:P.underlying t=some (.slice e)) (hs: ∀w,(sizeOf e).run P w= .ok s w) (h1:0≤hi) (h2:hi≤m):
  Ev P n ⟨d,.slice t x none (some z) none,ty,pos,af,g⟩ l L (qB v 0 hi.toNat s):=by
 intro a w hf _;obtain⟨b,c,rfl⟩:=hv.bo;have B8:=hc b m c rfl;have he:P.elem t=e:=by simp[Program.elem,hu]
 have M7:P.underlying t=some (.slice (P.elem t)):=by rw[he];exact hu
 simp only[execOp,Option.map_some,Option.map_none,hf.ev hx,hf.ev hz,Sem.run_bind,run_sliceAt_slice w t _ _ _ _ M7,run_slice_h w t b m c M7 k' hi h1 (by omega),he,hs,Result.andThen_ok,Sem.run_pure,qB]
theorem mi [Env]{R:List ax}{t e:TypeId}{x z:Operand}{m s:Nat}{k':IntKind}{lo:Int}{v:Value}{vs:List Value}(hv:cE R v m vs)(hx:ev l x=some v)(hz:ev l z=some (.int k' lo))
  (hu:P.underlying t=some (.slice e)) (hs: ∀w,(sizeOf e).run P w= .ok s w) (h1:0≤lo) (h2:lo≤m):
  Ev P n ⟨d,.slice t x (some z) none none,ty,pos,af,g⟩ l L (qB v lo.toNat m s):=by
 intro a w hf _;obtain⟨b,c,rfl⟩:=hv.bo;have he:P.elem t=e:=by simp[Program.elem,hu]
 have M7:P.underlying t=some (.slice (P.elem t)):=by rw[he];exact hu
 simp only[execOp,Option.map_some,Option.map_none,hf.ev hx,hf.ev hz,Sem.run_bind,run_sliceAt_slice w t _ _ _ _ M7,run_slice_l w t b m c M7 k' lo h1 h2,he,hs,Result.andThen_ok,Sem.run_pure,qB]
theorem pt [Env]{R:List ax}{t e:TypeId}{x y z:Operand}{m s:Nat}{k k':IntKind}{lo hi:Int}{v:Value}{vs:List Value}(hv:cE R v m vs)(hc:xc v)(hx:ev l x=some v)(hy:ev l y=some (.int k lo))(hz:ev l z=some (.int k' hi))
  (hu:P.underlying t=some (.slice e)) (hs: ∀w,(sizeOf e).run P w= .ok s w) (h0:0≤lo) (h1:lo≤hi) (h2:hi≤m):
  Ev P n ⟨d,.slice t x (some y) (some z) none,ty,pos,af,g⟩ l L (qB v lo.toNat hi.toNat s):=by
 intro a w hf _;obtain⟨b,c,rfl⟩:=hv.bo;have B8:=hc b m c rfl;have he:P.elem t=e:=by simp[Program.elem,hu]
 have M7:P.underlying t=some (.slice (P.elem t)):=by rw[he];exact hu
 simp only[execOp,Option.map_some,Option.map_none,hf.ev hx,hf.ev hy,hf.ev hz,Sem.run_bind,run_sliceAt_slice w t _ _ _ _ M7,run_slice_lh w t b m c M7 k k' lo hi h0 h1 (by omega),he,hs,Result.andThen_ok,Sem.run_pure,qB]
end
theorem cP [Env]{P:Program}{n:Nat}{l:List (Nat × Value)}{L:List ax}{d:Option Tmp}{ty:TypeId}{pos:String}{af:Array Edge}{g:Option (Nat × Bool)}{x:Operand}{T:TypeId}{s:Bytes}(hx:ev l x=some (.string ⟨s.toArray⟩))(hu:P.underlying T=some .string):
  Ev P n ⟨d,.call {callee:= .builtin .len,args:= #[x],argTypes:= #[T]},ty,pos,af,g⟩ l L (.int .i64 s.length):=by
 have e:(⟨s.toArray⟩:ByteArray).size=s.length:=by show s.toArray.size=_;simp
 rw[←e];exact BR hx hu
section
variable {P : Program} {n : Nat} {l : List (Nat × Value)} {L : List ax} {Q : Exit → Act → World → Prop}
theorem mz [Env]{t:TypeId}{b k:Nat}{vs:List Value}{T:TypeId}(hi:In L (sc b vs T))(ha: ∀w,(isAgg t).run P w= .ok true w)(hs: ∀w,(sizeOf t).run P w= .ok k w)(hk:vs.length=k){w:World}(hh:Has w L):
  (loadVar t ⟨b,0,none⟩).run P w= .ok (.agg vs.toArray) w:=by
 have hl:(loadCells ⟨b,0,none⟩ vs.length).run P w= .ok vs.toArray w:=by
  refine run_loadCells_list w _ vs (fun j u hj=>?_);rw[add_lit];exact nP hh hi (by simpa using hj)
 rw[hk]at hl;simp[loadVar,ha,hs,hl]
theorem Ms [Env]{t:TypeId}{b:Nat}{v:Value}{T:TypeId}(hi:In L (sc b [v] T))(ha: ∀w,(isAgg t).run P w= .ok false w){w:World}(hh:Has w L):
  (loadVar t ⟨b,0,none⟩).run P w= .ok v w:=by
 have:=nP (o:=0) (v:=v) hh hi rfl;simp[loadVar,ha,this]
theorem Z8 [Env]{fn:Func}{R L1:List ax}{post:Value→List ax→Prop}{pv:Value}{bad:List ax→Prop}{t:Tmp}{T T':TypeId}{b k:Nat}{vs:List Value}{e:Exit}(he:e= .ret∨e= .normal)(hr:fn.results= #[.cell t T])(hl:look l t=some (.pointer (some ⟨b,0,none⟩)))
  (ha: ∀w,(isAgg T).run P w= .ok true w) (hs: ∀w,(sizeOf T).run P w= .ok k w) (hi:In L (sc b vs T')) (hk:vs.length=k) (hg:Ge L L1) (hp: ∃L',post (.agg vs.toArray) L'∧L1=L'++R):
  Sk n (bodyPost P fn (CPP post R pv bad) e) l L:=by
 obtain⟨L',h1,rfl⟩:=hp;intro a w hf hh;have h2:=mz hi ha hs hk hh;have h4:=hf.get t _ hl
 have h3:(results fn a.tmps).run P w= .ok (.agg vs.toArray) w:=by
  simp only[Array.getD_eq_getD_getElem?]at h4;simp[results,hr,h4,asAddr,h2]
 rcases he with rfl|rfl
 ·exact⟨hf.defers,_,h3,.inl ⟨_,L',rfl,h1,hg.has hh⟩⟩
 ·exact⟨hf.defers,_,h3,.inl ⟨_,L',rfl,h1,hg.has hh⟩⟩
end
section
variable {P : Program} {ops : Array Oper} {md : Region.Mode} {Q : Exit → Act → World → Prop} {S : World → Prop}
theorem rT{n:Nat}{K:Act→World→Prop}(ig:Region.noSelect ops=true)(hs:Region.sinkB md ops n=true)(hc:Region.chainB md ops n=true)(hn:n≤ops.size)
  (hQ: ∀c a d v w,Q (.panic c) (a.put d v) w→Q (.panic c) a w):
  ∀(π:List (Nat × Bool)) (aC:Array Bool) (a:Act) (w:World),HeadInv md ops n aC→TR md ops n π aC=true→S w→rW P ops Q S K π a w→
  uZ P md ops Q S n (fun lr a' w'=>Region.seqB md ops (ops.size-n) n lr=true∧K a' w') π.length aC a w
 | [],aC,a,w,_,hB,_,h=>⟨hB,h⟩
 |(i,true)::π,aC,a,w,inv,hB,hS,h=>by
  simp only[TR,Bool.and_eq_true,decide_eq_true_eq]at hB;obtain⟨⟨⟨hr,hf⟩,ee⟩,Ho⟩:=hB;obtain⟨oi,v,M6,hy,hK⟩:=h;have Ce:i∈Region.ready md ops aC:=by simpa using hr
  exact tU M6 (Region.noSelect_spec ig) hs hc hn ee (fun c a w h=>hQ c a _ _ w h) (fun lr a' w' hL=>seqB_ready hL.1) π.length aC a w inv (Region.free_spec M6 hf) Ce hy hS
   (rT ig hs hc hn hQ π _ _ w (inv.set Ce ee) Ho hS hK)
 |(i,false)::π,aC,a,w,inv,hB,hS,h=>by
  simp only[TR,Bool.and_eq_true,decide_eq_true_eq]at hB;obtain⟨⟨hr,ee⟩,Ho⟩:=hB;have Ce:i∈Region.ready md ops aC:=by rw[hr];simp
  refine⟨by rw[hr];simp,fun j hj=>?_⟩;rw[hr]at hj;have:j=i:=by simpa using hj
  subst this;exact⟨ee,wpOp_mono (fun a' w' h'=>⟨h'.1,rT ig hs hc hn hQ π _ _ w' (inv.set Ce ee) Ho h'.1 h'.2⟩) h⟩
def WP(pw:List PanicEntry→World→Prop)(Q:Exit→Act→World→Prop):Exit→Act→World→Prop
 | .panic c,a,w=>a.defers=[]∧pw c w
 |e,a,w=>Q e a w
theorem ads{id:Nat}{a:Act}{w:World}{os:List Oper}{n:Nat}{π:List (Nat × Bool)}{pw:List PanicEntry→World→Prop}(hq: ∀c a w,a.defers=[]→pw c w→Q (.panic c) a w)
  (hm:P.follows .mixedOrders=true) (hB:Lr os.toArray n π=true) (hS:S {w with drawn:=w.drawn+1})
  (h:rW P os.toArray (WP pw Q) S (fun a w=>wpList P os.toArray (WP pw Q) (os.drop n) a w) π a {w with drawn:=w.drawn+1}):(Code.region id os.toArray true).wp P Q a w:=by
 refine wp_mono (Q:=WP pw Q) ?_ (fun e a w h=>by cases e<;>first|exact h|exact hq _ a w h.1 h.2)
 simp only[Lr,Bool.and_eq_true,decide_eq_true_eq]at hB;obtain⟨⟨⟨⟨⟨ig,hn⟩,hl⟩,hs⟩,hc⟩,hB⟩:=hB
 have Pj:HeadInv .any os.toArray n (Array.replicate os.toArray.size false):=by
  refine⟨by simp,fun j oj _ h=>?_,fun t _ ZJ=>?_⟩
  ·rw[getD_replicate_false]at h;cases h
  ·have:t<os.length:=by simpa using ZJ
   simp[this]
 have h1:=rT (S:=S) (md:= .any) ig hs hc hn (Q:=WP pw Q) (fun c a d v w h=>by cases d<;>exact h) π _ a _ Pj hB hS h;refine wp_region_any hm ?_;have vD:os.toArray.size=π.length+(os.toArray.size-n):=by omega
 rw[vD];rw[←vD];have h2:=rV (g:=os.toArray.size-n) (Q:=WP pw Q) (P:=P) (ops:=os.toArray) (md:= .any) (fun aC a w hh=>?_) π.length _ a _ h1
 ·rw[←vD]at h2;exact h2
 ·obtain⟨h3,h4⟩:=hh;have Ls:(os.drop n).length=os.toArray.size-n:=by simp
  have:=wpAny_of_seq (P:=P) (ops:=os.toArray) (Q':=WP pw Q) (os.drop n) n aC a w (fun j=>by simp) (by rw[Ls];exact h3) h4
  rwa[Ls]at this
end
section
variable {P : Program} {ops : Array Oper} {n : Nat} {Q : Exit → Act → World → Prop} {tail : List Oper} {l : List (Nat × Value)} {L Lh : List ax} {π : List (Nat × Bool)}
theorem BJ [Env]{id:Nat}{os:List Oper}(m:Nat)(π:List (Nat × Bool))(Lh:List ax)(pw:List PanicEntry→World→Prop)(hq: ∀c a w,a.defers=[]→pw c w→Q (.panic c) a w)(hm:P.follows .mixedOrders=true)(hB:Lr os.toArray m π=true)(hg:Ge L Lh)
  (h:Sh P os.toArray n (os.drop m) (WP pw Q) Lh π l L):Sc P n (.region id os.toArray true) Q l L:=
 fun a w hf hh=>ads hq hm hB (hg.has (hh.drawn _)) (h a _ hf (hh.drawn _))
theorem hwP [Env]{pw:List PanicEntry→World→Prop}(h:Sk n (Q .normal) l L):Sy P ops n [] (WP pw Q) l L:=fun a w hf hh=>h a w hf hh
theorem OV [Env]{i:Nat}{d:Tmp}{ty:TypeId}{pos:String}{af:Array Edge}{f:FuncId}{xs:List Operand}{ts:Array TypeId}{args:List Value}{pre R:List ax}{post:Value→List ax→Prop}{pv:Value}{bad:List ax→Prop}{pw:List PanicEntry→World→Prop}
  (ho:ops[i]? =some ⟨some d,.call {callee:= .value (.func f),args:=xs.toArray,argTypes:=ts},ty,pos,af,none⟩) (hc:Gn P f args pre R post pv bad) (hx:Ga l xs=some args)
  (bg: ∀(args:Array Value) (w:World),(callFunc f args).run P w= .ok (.enter f args) w) (ht:Tk L pre R) (hd:Nat.blt d n=true)
  (kp: ∀L',bad L'→ ∀w,Has w (L'++R)→pw (mN pv) w)
  (k: ∀v L',post v L'→Ge (L'++R) Lh∧Sh P ops n tail (WP pw Q) Lh π ((d,v)::l) (L'++R)):Sh P ops n tail (WP pw Q) Lh ((i,false)::π) l L:=by
 intro a w hf hh;unfold rW wpOp;simp only[ho];rw[if_pos (by simp[Region.wanted])];refine .inl ?_;unfold Oper.wp
 have hr:(execOp a.eval (⟨some d,.call {callee:= .value (.func f),args:=xs.toArray,argTypes:=ts},ty,pos,af,none⟩:Oper)).run P w= .ok (.enter f args.toArray) w:=by
  have:=mL hf hx;simp[execOp,resolve,Act.eval,Deferred.ofValue,invoke,bg,this]
 rw[hr,Oper.upon_enter];refine(hc w (ht.has hh)).mono ?_;rintro e w' (⟨v,L',rfl,hp,fU⟩|⟨L',rfl,hp,fU⟩)
 ·exact⟨(k v L' hp).1.has fU,(k v L' hp).2 _ w' (hf.put hd v) fU⟩
 ·exact⟨hf.defers,kp L' hp _ fU⟩
end
theorem fi [Env]{P:Program}{n:Nat}{o:Oper}{l:List (Nat × Value)}{L:List ax}{v:Value}(he:Ev P n o l L v):Ac P n o l L (fun u L'=>u=v∧L'=L):=
 fun a w hf hh=>⟨v,w,L,.inl (he a w hf hh),⟨rfl,rfl⟩,hh⟩
section
variable {P : Program} {n : Nat} {l : List (Nat × Value)} {L : List ax} {Q : Exit → Act → World → Prop}
theorem ln [Env]{K:Act→World→Prop}{c:List PanicEntry}(h:Sk n (Q (.panic c)) l L):Sk n (Exit.then K Q (.panic c)) l L:=h
theorem wA [Env]{i:Nat}{c:List PanicEntry}(h:Sk n (Q (.panic c)) l L):Sk n (Exit.inBlock i Q (.panic c)) l L:=h
end
end Go.Sl
namespace Go.Sl
structure FD(n:Nat)(l:List (Nat × Value))(D:List Deferred)(a:Act):Prop where
 fr:Fr n l {a with defers:=[]}
 ds:a.defers=D
def Np [Env](D:List Deferred)(P:Program)(ops:Array Oper)(n:Nat)(rest:List Oper)(Q:Exit→Act→World→Prop)(l:List (Nat × Value))(L:List ax):Prop:=
 ∀a w,FD n l D a→Has w L→wpList P ops Q rest a w
def ScD [Env](D:List Deferred)(P:Program)(n:Nat)(c:Code)(Q:Exit→Act→World→Prop)(l:List (Nat × Value))(L:List ax):Prop:=
 ∀a w,FD n l D a→Has w L→c.wp P Q a w
def SkD [Env](D:List Deferred)(n:Nat)(K:Act→World→Prop)(l:List (Nat × Value))(L:List ax):Prop:=
 ∀a w,FD n l D a→Has w L→K a w
section
variable {D : List Deferred} {P : Program} {ops : Array Oper} {n : Nat} {rest : List Oper} {Q : Exit → Act → World → Prop} {l : List (Nat × Value)} {L : List ax}
variable {d : Tmp} {op : Op} {ty : TypeId} {pos : String} {af : Array Edge} {g : Option (Nat × Bool)}
theorem yD [Env]{v:Value}(he:Ev P n ⟨some d,op,ty,pos,af,none⟩ l L v)(hd:Nat.blt d n=true)
  (k:Np D P ops n rest Q ((d,v)::l) L):Np D P ops n (⟨some d,op,ty,pos,af,none⟩::rest) Q l L:=by
 intro a w hf hh;refine g5 rfl ?_;unfold Oper.wp;have h:(execOp a.eval (⟨some d,op,ty,pos,af,none⟩:Oper)).run P w=_:=he {a with defers:=[]} w hf.fr hh;rw[h];exact k _ w ⟨hf.fr.put hd v,hf.ds⟩ hh
theorem yaD [Env]{K:Value→List ax→Prop}(he:Ac P n ⟨some d,op,ty,pos,af,none⟩ l L K)(hd:Nat.blt d n=true)
  (k: ∀v L',K v L'→Np D P ops n rest Q ((d,v)::l) L'):Np D P ops n (⟨some d,op,ty,pos,af,none⟩::rest) Q l L:=by
 intro a w hf hh;refine g5 rfl ?_;unfold Oper.wp;obtain⟨v,w',L',h,hk,fU⟩:=he {a with defers:=[]} w hf.fr hh;have h':(execOp a.eval (⟨some d,op,ty,pos,af,none⟩:Oper)).run P w= .ok (.value v) w'∨((execOp a.eval (⟨some d,op,ty,pos,af,none⟩:Oper)).run P w= .ok .skip w'∧v=undef):=h;rcases h' with hx|⟨hx,rfl⟩
 ·rw[hx];exact k v L' hk _ w' ⟨hf.fr.put hd v,hf.ds⟩ fU
 ·rw[hx];exact k _ L' hk _ w' ⟨hf.fr.put hd _,hf.ds⟩ fU
theorem amZ [Env]{K:Value→List ax→Prop}(he:Ac P n ⟨none,op,ty,pos,af,none⟩ l L K)
  (k: ∀v L',K v L'→Np D P ops n rest Q l L'):Np D P ops n (⟨none,op,ty,pos,af,none⟩::rest) Q l L:=by
 intro a w hf hh;refine g5 rfl ?_;unfold Oper.wp;obtain⟨v,w',L',h,hk,fU⟩:=he {a with defers:=[]} w hf.fr hh;have h':(execOp a.eval (⟨none,op,ty,pos,af,none⟩:Oper)).run P w= .ok (.value v) w'∨((execOp a.eval (⟨none,op,ty,pos,af,none⟩:Oper)).run P w= .ok .skip w'∧v=undef):=h;rcases h' with hx|⟨hx,rfl⟩
 ·rw[hx];exact k v L' hk _ w' ⟨hf.fr,hf.ds⟩ fU
 ·rw[hx];exact k _ L' hk _ w' ⟨hf.fr,hf.ds⟩ fU
theorem adz [Env]{x:Operand}{f:FuncId}{caps:Array Value}(hx:ev l x=some (.func (.func f) #[] caps))
  (k:Np [{target:= .fn (.func f) caps,args:= #[]}] P ops n rest Q l L):Sy P ops n (⟨none,.defer {callee:= .value x,args:= #[],argTypes:= #[]},ty,pos,af,none⟩::rest) Q l L:=by
 intro a w hf hh;refine g5 rfl ?_;unfold Oper.wp
 have hr:(execOp a.eval (⟨none,.defer {callee:= .value x,args:= #[],argTypes:= #[]},ty,pos,af,none⟩:Oper)).run P w= .ok (.defer {target:= .fn (.func f) caps,args:= #[]}) w:=by
  simp[execOp,resolve,hf.ev hx,Deferred.ofValue]
 rw[hr,Oper.upon_defer];refine k _ w ⟨?_,?_⟩ hh
 ·exact⟨hf.size,rfl,hf.get⟩
 ·simp[Act.put,hf.defers]
theorem VT [Env]{f:FuncId}{xs:List Operand}{ts:Array TypeId}{args:List Value}{pre R:List ax}{post:Value→List ax→Prop}{pv:Value}{bad:List ax→Prop}(hc:Gn P f args pre R post pv bad)(hx:Ga l xs=some args)
  (bg: ∀(args:Array Value) (w:World),(callFunc f args).run P w= .ok (.enter f args) w) (ht:Tk L pre R) (hd:Nat.blt d n=true)
  (kp: ∀L',bad L'→SkD D n (Q (.panic (mN pv))) l (L'++R))
  (k: ∀v L',post v L'→Np D P ops n rest Q ((d,v)::l) (L'++R)):
  Np D P ops n (⟨some d,.call {callee:= .value (.func f),args:=xs.toArray,argTypes:=ts},ty,pos,af,none⟩::rest) Q l L:=by
 intro a w hf hh;refine g5 rfl ?_;unfold Oper.wp
 have hr:(execOp a.eval (⟨some d,.call {callee:= .value (.func f),args:=xs.toArray,argTypes:=ts},ty,pos,af,none⟩:Oper)).run P w= .ok (.enter f args.toArray) w:=by
  have:xs.map a.eval=args:=mL hf.fr hx;simp[execOp,resolve,Act.eval,Deferred.ofValue,invoke,bg,this]
 rw[hr,Oper.upon_enter];refine(hc w (ht.has hh)).mono ?_;rintro e w' (⟨v,L',rfl,hp,fU⟩|⟨L',rfl,hp,fU⟩)
 ·exact k v L' hp _ w' ⟨hf.fr.put hd v,hf.ds⟩ fU
 ·exact kp L' hp _ w' hf fU
theorem Wc [Env]{x z:Code}(h:ScD D P n x (Exit.then (z.wp P Q) Q) l L):ScD D P n (.seq x z) Q l L:=fun a w hf hh=>wp_seq (h a w hf hh)
theorem Wd [Env]{x z:Code}(h:Sc P n x (Exit.then (z.wp P Q) Q) l L):Sc P n (.seq x z) Q l L:=fun a w hf hh=>wp_seq (h a w hf hh)
theorem I7 [Env]{z:Code}(h:ScD D P n z Q l L):Np D P ops n [] (Exit.then (z.wp P Q) Q) l L:=fun a w hf hh=>h a w hf hh
theorem Wb [Env]{id:Nat}{os:List Oper}(h:Np D P os.toArray n os Q l L):ScD D P n (.region id os.toArray false) Q l L:=
 fun a w hf hh=>wp_region_lit (h a w hf hh)
theorem aeN [Env](k:SkD D n (Q .ret) l L):ScD D P n .ret Q l L:=fun a w hf hh=>wp_ret (k a w hf hh)
end
section
variable {P : Program} {n : Nat} {l : List (Nat × Value)} {L : List ax}
theorem tG [Env]{fn:Func}{a:Act}{t u:Tmp}{T T1 U U1:TypeId}{b b' k:Nat}{vs:List Value}{v:Value}(hr:fn.results= #[.cell t T,.cell u U])(hf:Fr n l a)(hl:look l t=some (.pointer (some ⟨b,0,none⟩)))(EE:look l u=some (.pointer (some ⟨b',0,none⟩)))
  (ha: ∀w,(isAgg T).run P w= .ok true w) (hs: ∀w,(sizeOf T).run P w= .ok k w) (hk:vs.length=k) (En: ∀w,(isAgg U).run P w= .ok false w) {w:World} (hi:In L (sc b vs T1)) (SB:In L (sc b' [v] U1)) (hh:Has w L):
  (results fn a.tmps).run P w= .ok (.tuple #[.agg vs.toArray,v]) w:=by
 have h2:=mz hi ha hs hk hh;have h3:=Ms SB En hh;have h4:=hf.get t _ hl;have h5:=hf.get u _ EE;simp only[Array.getD_eq_getD_getElem?]at h4 h5;simp[results,hr,h4,h5,asAddr,h2,h3]
def r7 [Env](P:Program)(f:FuncId)(caps:Array Value)(pv:Value)(pre post:List ax):Prop:=
 (∀w,Has w []→CallsD P f caps .returning w fun e u' w'=>(∃v,e= .returned v)∧u'= .returning∧w'=w)∧
 ∀R w,Has w (pre++R)→CallsD P f caps (.panicking (mN pv)) w fun e u' w'=>(∃v,e= .returned v)∧u'= .panicking [{v:=pv,recovered:=true}]∧Has w' (post++R)
theorem ahm [Env]{fn:Func}{f:FuncId}{caps:Array Value}{pv:Value}{pre oM R L1:List ax}{post:Value→List ax→Prop}{t u:Tmp}{T T1 U U1:TypeId}{b b' k:Nat}{vs:List Value}{v:Value}(HH:r7 P f caps pv pre oM)
  (bg: ∀(args:Array Value) (w:World),(callFunc f args).run P w= .ok (.enter f args) w) (hr:fn.results= #[.cell t T,.cell u U]) (hl:look l t=some (.pointer (some ⟨b,0,none⟩))) (EE:look l u=some (.pointer (some ⟨b',0,none⟩)))
  (ha: ∀w,(isAgg T).run P w= .ok true w) (hs: ∀w,(sizeOf T).run P w= .ok k w) (hk:vs.length=k) (En: ∀w,(isAgg U).run P w= .ok false w) (hi:In L (sc b vs T1)) (SB:In L (sc b' [v] U1)) (hg:Ge L L1) (hp: ∃L',post (.tuple #[.agg vs.toArray,v]) L'∧L1=L'++R):
  SkD [{target:= .fn (.func f) caps,args:= #[]}] n (bodyPostD P fn (CP post R) .ret) l L:=by
 intro a w hf hh;obtain⟨L',h1,rfl⟩:=hp;show Leaves P fn a.tmps (CP post R) a.defers .returning w;rw[hf.ds];refine⟨by simp,_,_,f,caps,rfl,by simp[invoke,bg],(HH.1 w (Ge.nil.has hh)).mono ?_⟩;rintro e u' w' ⟨⟨v',rfl⟩,rfl,rfl⟩;exact⟨_,tG hr hf.fr hl EE ha hs hk En hi SB hh,_,L',rfl,h1,hg.has hh⟩
theorem ahj [Env]{fn:Func}{f:FuncId}{caps:Array Value}{pv:Value}{pre oM R R' L1:List ax}{post:Value→List ax→Prop}{t u:Tmp}{T T1 U U1:TypeId}{b b' k:Nat}{vs:List Value}{v:Value}(HH:r7 P f caps pv pre oM)
  (bg: ∀(args:Array Value) (w:World),(callFunc f args).run P w= .ok (.enter f args) w) (hr:fn.results= #[.cell t T,.cell u U]) (hl:look l t=some (.pointer (some ⟨b,0,none⟩))) (EE:look l u=some (.pointer (some ⟨b',0,none⟩)))
  (ha: ∀w,(isAgg T).run P w= .ok true w) (hs: ∀w,(sizeOf T).run P w= .ok k w) (hk:vs.length=k) (En: ∀w,(isAgg U).run P w= .ok false w) (ht:Tk L pre R') (hi:In (oM++R') (sc b vs T1)) (SB:In (oM++R') (sc b' [v] U1)) (hg:Ge (oM++R') L1) (hp: ∃L',post (.tuple #[.agg vs.toArray,v]) L'∧L1=L'++R):
  SkD [{target:= .fn (.func f) caps,args:= #[]}] n (bodyPostD P fn (CP post R) (.panic (mN pv))) l L:=by
 intro a w hf hh;obtain⟨L',h1,rfl⟩:=hp;show Leaves P fn a.tmps (CP post R) a.defers (.panicking (mN pv)) w;rw[hf.ds];refine⟨by simp,_,_,f,caps,rfl,by simp[invoke,bg],(HH.2 R' w (ht.has hh)).mono ?_⟩;rintro e u' w' ⟨⟨v',rfl⟩,rfl,fU⟩;exact⟨_,tG hr hf.fr hl EE ha hs hk En hi SB fU,_,L',rfl,h1,hg.has fU⟩
theorem GS [Env]{f:FuncId}{fn:Func}{c:Code}{args:List Value}{pre R:List ax}{post:Value→List ax→Prop}(hf:P.funcs[f]? =some fn)(hn:fn.ntmps=n)(hb:fn.body=some c)(hl:Nat.ble args.length n=true)
  (h:Sc P n c (bodyPostD P fn (CP post R)) (qW 0 args) (pre++R)):bC P f args pre R post:=by
 intro w hh;have hle:=Nat.le_of_ble_eq_true hl;refine calls_of_wp_defers hf hb (h _ w ?_ hh);have:=ml args.toArray fn.ntmps (by simpa[hn]using hle) (qW 0 args) (fun t v ht=>by have:=(mW args 0 t v ht).2;simpa using this);rw[hn]at this ⊢;exact this
theorem wy [Env]{ops:Array Oper}{rest:List Oper}{Q:Exit→Act→World→Prop}{d:Tmp}{op:Op}{ty:TypeId}{pos:String}{af:Array Edge}{v:Value}{a:Act}{w:World}(he:Ev P n ⟨some d,op,ty,pos,af,none⟩ l L v)(hd:Nat.blt d n=true)
  (hf:Fr n l a) (hh:Has w L) (k:Fr n ((d,v)::l) (a.put (some d) v)→wpList P ops Q rest (a.put (some d) v) w):wpList P ops Q (⟨some d,op,ty,pos,af,none⟩::rest) a w:=by
 refine g5 rfl ?_;unfold Oper.wp;rw[he a w hf hh];exact k (hf.put hd v)
theorem KS [Env]{x:Operand}{T xT:TypeId}{v:Value}{ds:TypeDesc}{d:Option Tmp}{ty:TypeId}{pos:String}{af:Array Edge}{g:Option (Nat × Bool)}(hx:ev l x=some (.iface T v))(hu:P.underlying T=some ds)(tY: ∀q,ds≠ .interface q):
  Ev P n ⟨d,.typeAssert x xT T false,ty,pos,af,g⟩ l L v:=by
 intro a w hf _;cases ds<;>simp_all [execOp,Instr.typeAssert,hf.ev hx,run_underlying hu]
theorem DW [Env]{x:Operand}{t t':TypeId}{v:Value}{d:Option Tmp}{ty:TypeId}{pos:String}{af:Array Edge}{g:Option (Nat × Bool)}{ms:Array (String × TypeId)}(hx:ev l x=some v)(hu:P.underlying t=some (.interface ms))(hv:v= .nilIface∨ ∃T u,v= .iface T u):
  Ev P n ⟨d,.binOp .eql t x (.const .nilIface) t',ty,pos,af,g⟩ l L (.bool (match v with| .nilIface=>true|_=>false)):=by
 intro a w hf _;have hm:P.underlying t=some (.interface (P.methodsAt t)):=by rw[hu];simp[Program.methodsAt,hu]
 rcases hv with rfl|⟨T,u,rfl⟩
 ·have h:=run_eql_nil_nil (P:=P) (w:=w) t hm;have e:a.eval x= .nilIface:=hf.ev hx;simp only[execOp,Sem.run_bind,e];simp[Act.eval,eqGuard_nil_constR,h]
 ·have h:=run_eql_held_nil (P:=P) (w:=w) t T u hm;have e:a.eval x= .iface T u:=hf.ev hx;simp only[execOp,Sem.run_bind,e];simp[Act.eval,eqGuard,h]
theorem cx [Env]{fn:Func}{R L1:List ax}{post:Value→List ax→Prop}{t u:Tmp}{T T':TypeId}{b k:Nat}{vs:List Value}{v:Value}(hr:fn.results= #[.cell t T,.tmp u])(hl:look l t=some (.pointer (some ⟨b,0,none⟩)))(EE:look l u=some v)
  (ha: ∀w,(isAgg T).run P w= .ok true w) (hs: ∀w,(sizeOf T).run P w= .ok k w) (hi:In L (sc b vs T')) (hk:vs.length=k) (hg:Ge L L1) (hp: ∃L',post (.tuple #[.agg vs.toArray,v]) L'∧L1=L'++R):
  Sk n (bodyPost P fn (CP post R) .ret) l L:=by
 obtain⟨L',h1,rfl⟩:=hp;intro a w hf hh;have h2:=mz hi ha hs hk hh;have h4:=hf.get t _ hl;have h5:=hf.get u _ EE;simp only[Array.getD_eq_getD_getElem?]at h4 h5
 have h3:(results fn a.tmps).run P w= .ok (.tuple #[.agg vs.toArray,v]) w:=by
  simp[results,hr,h4,h5,asAddr,h2]
 exact⟨hf.defers,_,h3,_,L',rfl,h1,hg.has hh⟩
theorem yT [Env]{f:FuncId}{fn:Func}{id:Nat}{c:Code}{caps:List Value}{pv:Value}{pre post:List ax}{o1 o2:Oper}{t u:Tmp}(hf:P.funcs[f]? =some fn)(hn:fn.ntmps=n)(zX:fn.results= #[])
  (hb:fn.body=some (.seq (.region id #[o1,o2] false) c)) (hl:Nat.ble caps.length n=true)
  (h1:o1.op= .call {callee:= .builtin .recover,args:= #[],argTypes:= #[]}∧o1.dst=some t∧o1.guard=none) (h2:o2.op= .assign (.tmp t)∧o2.dst=some u∧o2.guard=none) (ht:Nat.blt t n=true) (hu:Nat.blt u n=true)
  (hQ0: ∀(Q:Exit→Act→World→Prop) w,Has w []→(∀a',a'.defers=[]→Q .normal a' w)→ ∀a,Fr n ((u,.nilIface)::(t,.nilIface)::qW 0 caps) a→c.wp P Q a w)
  (hQ1: ∀(Q:Exit→Act→World→Prop) R,(∀a' w',a'.defers=[]→Has w' (post++R)→Q .normal a' w')→Sc P n c Q ((u,pv)::(t,pv)::qW 0 caps) (pre++R)):
  r7 P f caps.toArray pv pre post:=by
 have hle:=Nat.le_of_ble_eq_true hl;obtain⟨p1,d1,g1⟩:=h1;obtain⟨p2,d2,g2⟩:=h2;have Ez:=ml caps.toArray fn.ntmps (by simpa[hn]using hle) (qW 0 caps) (fun t v ht=>by have:=(mW caps 0 t v ht).2;simpa using this);rw[hn]at Ez
 have af4: ∀(a:Act) (w:World),(execOp a.eval o1).run P w= .ok .recover w:=by
  intro a w;simp[execOp,p1,resolve,invoke,builtin]
 have af5: ∀(a:Act) (w:World) (v:Value),Fr n ((t,v)::qW 0 caps) a→(execOp a.eval o2).run P w= .ok (.value v) w:=by
  intro a w v wm;have:a.eval (.tmp t)=v:=wm.ev (show ev ((t,v)::qW 0 caps) (.tmp t)=some v by simp[ev,look]);simp[execOp,p2,this]
 constructor
 ·intro w hh0;refine callsD_of_wpS hf hb fun aac cs hm=>?_
  rw[hn];apply wpS_seq;apply wpS_region;have HH:recoverD (aac::cs)=none:=by simp[recoverD,hm]
  have hr:List.range (#[o1,o2]:Array Oper).size=[0,1]:=rfl;rw[hr];have f1:=Ez.put ht .nilIface;have f2:=f1.put hu .nilIface;simp only[wpOpsS,List.getElem?_toArray,List.getElem?_cons_zero,List.getElem?_cons_succ,Region.wanted,g1,g2,af4,HH,d1,d2,af5 _ _ _ f1,Oper.upon,if_true,Exit.thenS];refine wpS_of_wp (hQ0 _ w hh0 ?_ _ f2);intro a' En;exact⟨En,_,rfl,.tuple #[],results_none zX _ _ _,⟨_,rfl⟩,hm,rfl⟩
 ·intro R w hh;refine callsD_of_wpS hf hb fun aac cs hm=>?_
  rw[hn];apply wpS_seq;apply wpS_region;have HH:recoverD (aac::cs)=some (pv,{aac with mode:= .panicking [{v:=pv,recovered:=true}]}::cs):=by simp[recoverD,hm,mN]
  have hr:List.range (#[o1,o2]:Array Oper).size=[0,1]:=rfl;rw[hr];have f1:=Ez.put ht pv;have f2:=f1.put hu pv;simp only[wpOpsS,List.getElem?_toArray,List.getElem?_cons_zero,List.getElem?_cons_succ,Region.wanted,g1,g2,af4,HH,d1,d2,af5 _ _ _ f1,Oper.upon,if_true,Exit.thenS];refine wpS_of_wp (hQ1 _ R ?_ _ w f2 hh);intro a' w' En fU;exact⟨En,_,rfl,.tuple #[],results_none zX _ _ _,⟨_,rfl⟩,rfl,fU⟩
end
section
variable {P : Program} {ops : Array Oper} {n : Nat} {Q : Exit → Act → World → Prop} {tail : List Oper} {l : List (Nat × Value)} {L Lh : List ax} {π : List (Nat × Bool)}
theorem Eo [Env]{i:Nat}{op:Op}{ty:TypeId}{pos:String}{af:Array Edge}{K:Value→List ax→Prop}(ho:ops[i]? =some ⟨none,op,ty,pos,af,none⟩)(he:Ac P n ⟨none,op,ty,pos,af,none⟩ l L K)
  (k: ∀v L',K v L'→Ge L' Lh∧Sh P ops n tail Q Lh π l L'):Sh P ops n tail Q Lh ((i,false)::π) l L:=by
 intro a w hf hh;unfold rW wpOp;simp only[ho];rw[if_pos (by simp[Region.wanted])];refine .inl ?_;unfold Oper.wp;obtain⟨v,w',L',hr|⟨hr,rfl⟩,hk,fU⟩:=he a w hf hh
 ·rw[hr];exact⟨(k v L' hk).1.has fU,(k v L' hk).2 _ w' hf fU⟩
 ·rw[hr];exact⟨(k _ L' hk).1.has fU,(k _ L' hk).2 _ w' hf fU⟩
end
end Go.Sl
namespace Go.Sl
def SR(t:Bytes)(e:TypeId)(L:List ax)(v:Value)(L':List ax):Prop:=
 ∃b c sp fr,v= .slice (some ⟨b,0,none⟩) t.length c∧t.length≤c∧L'=so b (.cells (av t++sp).toArray e fr)::L
section
variable {P : Program} {n : Nat} {l : List (Nat × Value)} {L : List ax} {d : Option Tmp} {ty : TypeId} {pos : String} {af : Array Edge} {g : Option (Nat × Bool)}
theorem ku [Env]{t u e:TypeId}{x:Operand}{bs:Bytes}(hx:ev l x=some (.string ⟨bs.toArray⟩))(ht:P.underlying t=some .string)(hu:P.underlying u=some (.slice e))(he:P.underlying e=some (.int .u8)):
  Ac P n ⟨d,.convert t u x,ty,pos,af,g⟩ l L (SR bs e L):=by
 intro a w hf hh;obtain⟨s,hs⟩: ∃s:ByteArray,s=⟨bs.toArray⟩:=⟨_,rfl⟩;have vD:s.size=bs.length:=by rw[hs];show bs.toArray.size=_;simp
 have SG:s.data.toList=bs:=by rw[hs]
 rw[←hs]at hx;have hr:=run_bytes_of_string (P:=P) w t u e s ht hu he;have h2:=(hh.drew).alloc (.cells (bytesRow s (grownCap w s.size 0 e)) e ((bytesRow s (grownCap w s.size 0 e)).size,(bytesRow s (grownCap w s.size 0 e)).size+1))
 have hb:bytesRow s (grownCap w s.size 0 e)=(av bs++List.replicate (grownCap w s.size 0 e-s.size) (Value.int .u8 0)).toArray:=by
  rw[←SG];unfold bytesRow av;rw[←Array.toList_inj];simp
 have hge:=grownCap_ge w s.size 0 e
 refine⟨.slice (some ⟨w.heap.size,0,none⟩) s.size (grownCap w s.size 0 e),w.drew.alloc (.cells (bytesRow s (grownCap w s.size 0 e)) e ((bytesRow s (grownCap w s.size 0 e)).size,(bytesRow s (grownCap w s.size 0 e)).size+1)),
  so w.drew.heap.size (.cells (bytesRow s (grownCap w s.size 0 e)) e ((bytesRow s (grownCap w s.size 0 e)).size,(bytesRow s (grownCap w s.size 0 e)).size+1))::L,.inl ?_,?_,h2⟩
 ·simp only[execOp,hf.ev hx,Sem.run_bind,hr,Result.andThen_ok,Sem.run_pure]
 ·exact⟨w.heap.size,grownCap w s.size 0 e,List.replicate (grownCap w s.size 0 e-s.size) (.int .u8 0),_,by rw[vD],by omega,by rw[←hb];rfl⟩
theorem yO [Env]{L:List ax}{b c:Nat}{bs:Bytes}{sp:List Value}{T:TypeId}{fr:Nat × Nat}(hi:In L (so b (.cells (av bs++sp).toArray T fr)))(hc:bs.length≤c):oD L (.slice (some ⟨b,0,none⟩) bs.length c) bs:=
 ⟨eh (k:=bs.length) hi (by simp) (by simp),fun a m c' e=>by simp only[Value.slice.injEq]at e;omega⟩
end
section
variable {P : Program} {ops : Array Oper} {n : Nat} {rest : List Oper} {Q : Exit → Act → World → Prop} {l : List (Nat × Value)} {L : List ax}
variable {d : Tmp} {dd : Option Tmp} {op : Op} {ty : TypeId} {pos : String} {af : Array Edge} {g : Option (Nat × Bool)}
theorem nT [Env]{f:Fn}{x:Operand}{v:Value}(hx:ev l x=some v):Ev P n ⟨dd,.makeFunc f #[x] #[],ty,pos,af,g⟩ l L (.func f #[v] #[]):=
 fun a w hf _=>by simp[execOp,Instr.makeFunc,hf.ev hx]
theorem w8 [Env]{f:FuncId}{x:Operand}{xs:List Operand}{ts:Array TypeId}{args first:List Value}{pre R:List ax}{post:Value→List ax→Prop}(hv:ev l x=some (.func (.func f) first.toArray #[]))(hc:bC P f (first++args) pre R post)(hx:Ga l xs=some args)
  (bg: ∀(args:Array Value) (w:World),(callFunc f args).run P w= .ok (.enter f args) w) (ht:Tk L pre R) (hd:Nat.blt d n=true)
  (k: ∀v L',post v L'→Sy P ops n rest Q ((d,v)::l) (L'++R)):
  Sy P ops n (⟨some d,.call {callee:= .value x,args:=xs.toArray,argTypes:=ts},ty,pos,af,none⟩::rest) Q l L:=by
 intro a w hf hh;refine g5 rfl ?_;unfold Oper.wp
 have hr:(execOp a.eval (⟨some d,.call {callee:= .value x,args:=xs.toArray,argTypes:=ts},ty,pos,af,none⟩:Oper)).run P w= .ok (.enter f (first++args).toArray) w:=by
  have:=mL hf hx;have e:a.eval x= .func (.func f) first.toArray #[]:=hf.ev hv;simp[execOp,resolve,e,Deferred.ofValue,invoke,bg,this]
 rw[hr,Oper.upon_enter];refine(hc w (ht.has hh)).mono ?_;rintro e w' ⟨v,L',rfl,hp,fU⟩;exact k v L' hp _ w' (hf.put hd v) fU
end
end Go.Sl
namespace Go.Sl
section
variable {P : Program} {ops : Array Oper} {md : Region.Mode} {Q : Exit → Act → World → Prop} {S : World → Prop}
def KM(md:Region.Mode)(ops:Array Oper)(i:Nat):Nat→Nat→Bool
 |0,_=>false
 |f+1,j=>match ops[j]? with
  |none=>false
  |some oj=>oj.after.toList.any fun e=>Region.binds md e&&(Nat.beq e.on i||KM md ops i f e.on)
theorem xz{n i:Nat}{aC:Array Bool}(inv:HeadInv md ops n aC): ∀(f j:Nat),KM md ops i f j=true→(∀oj,ops[j]? =some oj→ ∀e∈oj.after,Region.binds md e=true→aC.getD e.on false=true)→aC.getD i false=true
 |0,j,h,_=>by simp[KM]at h
 |f+1,j,h,hj=>by
  unfold KM at h;split at h
  ·cases h
  ·rename_i oj JB
   obtain⟨e,tX,h2⟩:=List.any_eq_true.1 h;have he:e∈oj.after:=by simpa using tX
   simp only[Bool.and_eq_true,Bool.or_eq_true]at h2;have h3:=hj oj JB e he h2.1;rcases h2.2 with h4|h4
   ·have:e.on=i:=by simpa using h4
    rw[←this];exact h3
   ·exact xz inv f e.on h4 (fun ok cq e2 he2 hb=>inv.closed e.on ok cq h3 e2 he2 hb)
def Ng(md:Region.Mode)(ops:Array Oper)(mem:Nat→Bool)(aC:Array Bool)(j:Nat):Prop:= ∀i,mem i=true→aC.getD i false=true→ ∃f,KM md ops i f j=true
def pW(P:Program)(md:Region.Mode)(ops:Array Oper)(Q:Exit→Act→World→Prop)(mem:Nat→Bool)(S0:World→Prop)(n:Nat)(Lq:Array Bool→Act→World→Prop):Nat→(World→Prop)→Array Bool→Act→World→Prop
 |0,_,aC,a,w=>Lq aC a w
 |f+1,S,aC,a,w=>Region.ready md ops aC≠[]∧
  ∀i∈Region.ready md ops aC,i<n∧wpOp P ops Q i (fun a' w'=> ∃S',S' w'∧(∀w,S' w→S0 w)∧((∀w,S' w→S w)∨Ng md ops mem aC i)∧pW P md ops Q mem S0 n Lq f S' (aC.setIfInBounds i true) a' w') a w
theorem zp{mem:Nat→Bool}{S0:World→Prop}{n g:Nat}{Lq:Array Bool→Act→World→Prop}(hL: ∀aC a w,Lq aC a w→wpAny P md ops Q g aC a w):
  ∀(f:Nat) (S:World→Prop) (aC:Array Bool) (a:Act) (w:World),pW P md ops Q mem S0 n Lq f S aC a w→wpAny P md ops Q (f+g) aC a w
 |0,S,aC,a,w,h=>by rw[Nat.zero_add];exact hL _ _ _ h
 |f+1,S,aC,a,w,h=>by
  rw[show f+1+g=(f+g)+1 by omega];exact⟨fun h0=>absurd h0 h.1,fun i hi=>wpOp_mono (fun a' w' ⟨S',_,_,_,h'⟩=>zp hL f S' _ a' w' h') (h.2 i hi).2⟩
def WW(S0:World→Prop)(mem:Nat→Bool)(i:Nat)(S:World→Prop):World→Prop:=fun w=>S0 w∧(mem i=true→S w)
theorem tV{mem:Nat→Bool}{S0:World→Prop}{n i:Nat}{oi:Oper}{v:Value}{Lq:Array Bool→Act→World→Prop}(hi:ops[i]? =some oi)(ig: ∀(j:Nat) (o:Oper) cs b,ops[j]? =some o→o.op≠ .select cs b)
  (hs:n=ops.size∨Region.sinkB md ops n=true) (hc:Region.chainB md ops n=true) (hn:n≤ops.size) (ee:i<n) (hQ: ∀c a w,Q (.panic c) (a.put oi.dst v) w→Q (.panic c) a w)
  (OW: ∀aC a w,Lq aC a w→ ∀j∈Region.ready md ops aC,n≤j):
  ∀(f:Nat) (S:World→Prop) (aC:Array Bool) (a:Act) (w:World),HeadInv md ops n aC→
   (∀j oj,ops[j]? =some oj→j≠i→aC.getD j true=false→(∀e∈oj.after,Region.binds md e=true→e.on≠i)→oi.apart ops oj=true)→
   i∈Region.ready md ops aC→YieldsIf P ops (WW S0 mem i S) oi v a→S w→(∀w,S w→S0 w)→
   pW P md ops Q mem S0 n Lq f S (aC.setIfInBounds i true) (a.put oi.dst v) w→pW P md ops Q mem S0 n Lq (f+1) S aC a w:=by
 have tw: ∀(aC:Array Bool),HeadInv md ops n aC→i∈Region.ready md ops aC→ ∀j∈Region.ready md ops aC,j<n:=by
  intro aC inv hr j hj;have JG:=(mem_ready.1 hr).1;have hjs:j<ops.size:=by obtain⟨_,oj,JB,_⟩:=mem_ready.1 hj;exact(Array.getElem?_eq_some_iff.1 JB).1
  rcases Nat.lt_or_ge j n with h|h
  ·exact h
  ·rcases hs with hs|hs
   ·omega
   ·exact absurd hj (tail_waits hs hc (by omega) inv _ i rfl ee JG j h)
 intro f
 induction f with
 |zero=>
  intro S aC a w inv _ hr hy hS h0 H;refine⟨fun h=>(by rw[h]at hr;cases hr),fun j hj=>?_⟩;have TW:=tw aC inv hr j hj;refine⟨TW,?_⟩
  by_cases ED:j=i
  ·subst ED;exact hy.wpOp hi ⟨h0 _ hS,fun _=>hS⟩ ⟨S,hS,h0,.inl (fun _ h=>h),H⟩
  ·have:=OW _ _ _ H j (ready_mono hj ED);omega
 |succ f ih=>
  intro S aC a w inv EA hr hy hS h0 H;have JG:=(mem_ready.1 hr).1;refine⟨fun h=>(by rw[h]at hr;cases hr),fun j hj=>?_⟩;have TW:=tw aC inv hr j hj;refine⟨TW,?_⟩
  by_cases ED:j=i
  ·subst ED;exact hy.wpOp hi ⟨h0 _ hS,fun _=>hS⟩ ⟨S,hS,h0,.inl (fun _ h=>h),H⟩
  ·have h1:=(H.2 j (ready_mono hj ED)).2;obtain⟨O0,oj,JB,lQ⟩:=mem_ready.1 hj
   have Zw: ∀e∈oj.after,Region.binds md e=true→e.on≠i:=fun e he hb heq=>by
    have h1:=lQ e he hb;rw[heq,getD_both JG]at h1;cases h1
   have h2:=wpOp_putIf JB (EA j oj JB ED O0 Zw) (fun cs b=>ig i oi cs b hi) (fun cs b=>ig j oj cs b JB) hQ hy h1
   have Hz: ∀k ok,ops[k]? =some ok→k≠i→(aC.setIfInBounds j true).getD k true=false→
     (∀e∈ok.after,Region.binds md e=true→e.on≠i)→oi.apart ops ok=true:=fun k ok hk hki JG eF=>by
    refine EA k ok hk hki ?_ eF
    by_cases M0:j=k
    ·subst M0;exact O0
    ·rw[getD_set_ne true M0]at JG;exact JG
   refine wpOp_mono (fun a' w' h3=>?_) h2;obtain⟨hy',S',hS',hz,hd,hH⟩:=h3;have agj: ∀k,aC.getD k false=true→(aC.setIfInBounds i true).getD k false=true:=fun k hk=>getD_set_true hk
   have hy2:YieldsIf P ops (WW S0 mem i S') oi v a':=by
    refine hy'.imp (fun⟨h5,h6⟩=>⟨h5,fun w2 sS=>h6 w2 ⟨sS.1,?_⟩⟩) id;intro hm;rcases hd with hd|hd
    ·exact hd _ (sS.2 hm)
    ·exfalso
     have SC:(aC.setIfInBounds i true).getD i false=true:=by
      have vD:i<aC.size:=by rw[inv.size];omega
      simp[vD]
     obtain⟨fu,hf⟩:=hd i hm SC
     have h7:=xz inv fu j hf (fun ok cq e he hb=>by
      have:ok=oj:=Option.some.inj (cq.symm.trans JB);subst this;exact lQ e he hb)
     rw[getD_both JG]at h7;cases h7
   refine⟨S',hS',hz,hd.imp id (fun hd k hm hk=>hd k hm (agj k hk)),ih S' (aC.setIfInBounds j true) a' w' (inv.set hj TW) Hz (ready_mono hr (Ne.symm ED)) hy2 hS' hz ?_⟩;rw[Array.setIfInBounds_comm _ _ ED];exact hH
inductive Pi where
 |nil
 |op (i k:Nat) (π:Pi)
 |fork (i:Nat) (π:Pi) (j:Nat) (ρ:Pi)
 |D8 (i:Nat) (π:Pi) (j:Nat) (ρ:Pi) (k:Nat) (σ:Pi)
def Pi.len:Pi→Nat
 | .nil=>0
 | .op _ _ π=>π.len+1
 | .fork _ π _ _=>π.len+1
 | .D8 _ π _ _ _ _=>π.len+1
def Pi.mem:Pi→List Nat
 | .nil=>[]
 | .op i 1 π=>i::π.mem
 | .op _ _ π=>π.mem
 | .fork _ π _ ρ=>π.mem++ρ.mem
 | .D8 _ π _ ρ _ σ=>π.mem++ρ.mem++σ.mem
def oA(P:Program)(ops:Array Oper)(Q:Exit→Act→World→Prop)(S0:World→Prop)(K:Act→World→Prop):(World→Prop)→Pi→Act→World→Prop
 |_,.nil,a,w=>K a w
 |S,.op i 0 π,a,w=> ∃oi v,ops[i]? =some oi∧YieldsIf P ops S0 oi v a∧oA P ops Q S0 K S π (a.put oi.dst v) w
 |S,.op i 1 π,a,w=> ∃oi v,ops[i]? =some oi∧YieldsIf P ops S oi v a∧oA P ops Q S0 K S π (a.put oi.dst v) w
 |S,.op i 2 π,a,w=>wpOp P ops Q i (fun a' w'=> ∃S',S' w'∧(∀w,S' w→S w)∧oA P ops Q S0 K S' π a' w') a w
 |_,.op i (_+3) π,a,w=>wpOp P ops Q i (fun a' w'=> ∃S',S' w'∧(∀w,S' w→S0 w)∧oA P ops Q S0 K S' π a' w') a w
 |S,.fork i π j ρ,a,w=>wpOp P ops Q i (fun a' w'=> ∃S',S' w'∧(∀w,S' w→S w)∧oA P ops Q S0 K S' π a' w') a w∧wpOp P ops Q j (fun a' w'=> ∃S',S' w'∧(∀w,S' w→S w)∧oA P ops Q S0 K S' ρ a' w') a w
 |S,.D8 i π j ρ k σ,a,w=>wpOp P ops Q i (fun a' w'=> ∃S',S' w'∧(∀w,S' w→S w)∧oA P ops Q S0 K S' π a' w') a w∧wpOp P ops Q j (fun a' w'=> ∃S',S' w'∧(∀w,S' w→S w)∧oA P ops Q S0 K S' ρ a' w') a w∧wpOp P ops Q k (fun a' w'=> ∃S',S' w'∧(∀w,S' w→S w)∧oA P ops Q S0 K S' σ a' w') a w
def Tg(md:Region.Mode)(ops:Array Oper)(ms:List Nat)(aC:Array Bool)(j:Nat):Bool:=ms.all fun i=> !aC.getD i false||KM md ops i ops.size j
def EJ(md:Region.Mode)(ops:Array Oper)(n:Nat)(ms:List Nat):Pi→Array Bool→Bool
 | .nil,aC=>Region.seqB md ops (ops.size-n) n aC
 | .op i 0 π,aC=>(Region.ready md ops aC).contains i&&Region.free md ops aC i&&decide (i<n)&& !ms.contains i&&EJ md ops n ms π (aC.setIfInBounds i true)
 | .op i 1 π,aC=>(Region.ready md ops aC).contains i&&Region.free md ops aC i&&decide (i<n)&&ms.contains i&&EJ md ops n ms π (aC.setIfInBounds i true)
 | .op i 2 π,aC=>decide (Region.ready md ops aC=[i])&&decide (i<n)&&EJ md ops n ms π (aC.setIfInBounds i true)
 | .op i (_+3) π,aC=>decide (Region.ready md ops aC=[i])&&decide (i<n)&&Tg md ops ms aC i&&EJ md ops n ms π (aC.setIfInBounds i true)
 | .fork i π j ρ,aC=>decide (Region.ready md ops aC=[i,j])&&decide (i<n)&&decide (j<n)&&Nat.beq π.len ρ.len&&EJ md ops n ms π (aC.setIfInBounds i true)&&EJ md ops n ms ρ (aC.setIfInBounds j true)
 | .D8 i π j ρ k σ,aC=>decide (Region.ready md ops aC=[i,j,k])&&decide (i<n)&&decide (j<n)&&decide (k<n)&&Nat.beq π.len ρ.len&&Nat.beq π.len σ.len&&EJ md ops n ms π (aC.setIfInBounds i true)&&EJ md ops n ms ρ (aC.setIfInBounds j true)&&EJ md ops n ms σ (aC.setIfInBounds k true)
def Zu(ops:Array Oper)(n:Nat)(π:Pi):Bool:=
 Region.noSelect ops&&decide (n≤ops.size)&&decide (π.len=n)&&(Nat.beq n ops.size||Region.sinkB .any ops n)&&Region.chainB .any ops n&&EJ .any ops n π.mem π (Array.replicate ops.size false)
theorem gQ{S0:World→Prop}{n:Nat}{ms:List Nat}{K:Act→World→Prop}(ig:Region.noSelect ops=true)(hs:n=ops.size∨Region.sinkB md ops n=true)(hc:Region.chainB md ops n=true)(hn:n≤ops.size)
  (hQ: ∀c a w,¬Q (.panic c) a w):
  ∀(π:Pi) (S:World→Prop) (aC:Array Bool) (a:Act) (w:World),HeadInv md ops n aC→EJ md ops n ms π aC=true→S w→(∀w,S w→S0 w)→oA P ops Q S0 K S π a w→
  pW P md ops Q (fun i=>ms.contains i) S0 n (fun lr a' w'=>Region.seqB md ops (ops.size-n) n lr=true∧K a' w') π.len S aC a w
 | .nil,S,aC,a,w,_,hB,_,_,h=>⟨hB,h⟩
 | .op i 0 π,S,aC,a,w,inv,hB,hS,h0,h=>by
  simp only[EJ,Bool.and_eq_true,decide_eq_true_eq]at hB;obtain⟨⟨⟨⟨hr,hf⟩,ee⟩,hm⟩,Ho⟩:=hB;obtain⟨oi,v,M6,hy,hK⟩:=h;have Ce:i∈Region.ready md ops aC:=by simpa using hr
  exact tV M6 (Region.noSelect_spec ig) hs hc hn ee (fun c a w h=>absurd h (hQ c _ w)) (fun lr a' w' hL=>seqB_ready hL.1) π.len S aC a w inv (Region.free_spec M6 hf) Ce (hy.imp (fun⟨h1,h2⟩=>⟨h1,fun w hw=>h2 w hw.1⟩) id) hS h0
   (gQ ig hs hc hn hQ π S _ _ w (inv.set Ce ee) Ho hS h0 hK)
 | .op i 1 π,S,aC,a,w,inv,hB,hS,h0,h=>by
  simp only[EJ,Bool.and_eq_true,decide_eq_true_eq]at hB;obtain⟨⟨⟨⟨hr,hf⟩,ee⟩,hm⟩,Ho⟩:=hB;obtain⟨oi,v,M6,hy,hK⟩:=h;have Ce:i∈Region.ready md ops aC:=by simpa using hr
  exact tV M6 (Region.noSelect_spec ig) hs hc hn ee (fun c a w h=>absurd h (hQ c _ w)) (fun lr a' w' hL=>seqB_ready hL.1) π.len S aC a w inv (Region.free_spec M6 hf) Ce (hy.imp (fun⟨h1,h2⟩=>⟨h1,fun w hw=>h2 w (hw.2 hm)⟩) id) hS h0
   (gQ ig hs hc hn hQ π S _ _ w (inv.set Ce ee) Ho hS h0 hK)
 | .op i 2 π,S,aC,a,w,inv,hB,hS,h0,h=>by
  simp only[EJ,Bool.and_eq_true,decide_eq_true_eq]at hB;obtain⟨⟨hr,ee⟩,Ho⟩:=hB;have Ce:i∈Region.ready md ops aC:=by rw[hr];simp
  refine⟨by rw[hr];simp,fun j hj=>?_⟩;rw[hr]at hj;have:j=i:=by simpa using hj
  subst this;exact⟨ee,wpOp_mono (fun a' w' ⟨S',h1,h3,h2⟩=>⟨S',h1,fun w h=>h0 w (h3 w h),.inl h3,gQ ig hs hc hn hQ π S' _ _ w' (inv.set Ce ee) Ho h1 (fun w h=>h0 w (h3 w h)) h2⟩) h⟩
 | .op i (_+3) π,S,aC,a,w,inv,hB,hS,h0,h=>by
  simp only[EJ,Bool.and_eq_true,decide_eq_true_eq]at hB;obtain⟨⟨⟨hr,ee⟩,hd⟩,Ho⟩:=hB;have Ce:i∈Region.ready md ops aC:=by rw[hr];simp
  have hd':Ng md ops (fun i=>ms.contains i) aC i:=by
   intro k hk hl;have:=List.all_eq_true.1 hd k (by simpa using hk);rw[hl]at this;exact⟨ops.size,by simpa using this⟩
  refine⟨by rw[hr];simp,fun j hj=>?_⟩;rw[hr]at hj;have:j=i:=by simpa using hj
  subst this;refine⟨ee,wpOp_mono (fun a' w' h'=>?_) h⟩;obtain⟨S',h1,h3,h2⟩:=h';exact⟨S',h1,h3,.inr hd',gQ ig hs hc hn hQ π S' _ _ w' (inv.set Ce ee) Ho h1 h3 h2⟩
 | .fork i π j ρ,S,aC,a,w,inv,hB,hS,h0,h=>by
  simp only[EJ,Bool.and_eq_true,decide_eq_true_eq]at hB;obtain⟨⟨⟨⟨⟨hr,hi⟩,hj⟩,hl⟩,hB1⟩,hB2⟩:=hB;have EE:π.len=ρ.len:=Nat.eq_of_beq_eq_true hl;refine⟨by rw[hr];simp,fun k hk=>?_⟩;have hk':=hk;rw[hr]at hk;rcases(by simpa using hk:k=i∨k=j)with rfl|rfl
  ·exact⟨hi,wpOp_mono (fun a' w' ⟨S',h1,h3,h2⟩=>⟨S',h1,fun w h=>h0 w (h3 w h),.inl h3,gQ ig hs hc hn hQ π S' _ _ w' (inv.set hk' hi) hB1 h1 (fun w h=>h0 w (h3 w h)) h2⟩) h.1⟩
  ·refine⟨hj,wpOp_mono (fun a' w' ⟨S',h1,h3,h2⟩=>⟨S',h1,fun w h=>h0 w (h3 w h),.inl h3,?_⟩) h.2⟩;show pW P md ops Q _ S0 n _ π.len S' _ a' w';rw[EE];exact gQ ig hs hc hn hQ ρ S' _ _ w' (inv.set hk' hj) hB2 h1 (fun w h=>h0 w (h3 w h)) h2
 | .D8 i π j ρ l σ,S,aC,a,w,inv,hB,hS,h0,h=>by
  simp only[EJ,Bool.and_eq_true,decide_eq_true_eq]at hB;obtain⟨⟨⟨⟨⟨⟨⟨⟨hr,hi⟩,hj⟩,hl⟩,he1⟩,he2⟩,hB1⟩,hB2⟩,hB3⟩:=hB;have e1:π.len=ρ.len:=Nat.eq_of_beq_eq_true he1;have e2:π.len=σ.len:=Nat.eq_of_beq_eq_true he2;refine⟨by rw[hr];simp,fun k hk=>?_⟩;have hk':=hk;rw[hr]at hk;rcases(by simpa using hk:k=i∨k=j∨k=l)with rfl|rfl|rfl
  ·exact⟨hi,wpOp_mono (fun a' w' ⟨S',h1,h3,h2⟩=>⟨S',h1,fun w h=>h0 w (h3 w h),.inl h3,gQ ig hs hc hn hQ π S' _ _ w' (inv.set hk' hi) hB1 h1 (fun w h=>h0 w (h3 w h)) h2⟩) h.1⟩
  ·refine⟨hj,wpOp_mono (fun a' w' ⟨S',h1,h3,h2⟩=>⟨S',h1,fun w h=>h0 w (h3 w h),.inl h3,?_⟩) h.2.1⟩;show pW P md ops Q _ S0 n _ π.len S' _ a' w';rw[e1];exact gQ ig hs hc hn hQ ρ S' _ _ w' (inv.set hk' hj) hB2 h1 (fun w h=>h0 w (h3 w h)) h2
  ·refine⟨hl,wpOp_mono (fun a' w' ⟨S',h1,h3,h2⟩=>⟨S',h1,fun w h=>h0 w (h3 w h),.inl h3,?_⟩) h.2.2⟩;show pW P md ops Q _ S0 n _ π.len S' _ a' w';rw[e2];exact gQ ig hs hc hn hQ σ S' _ _ w' (inv.set hk' hl) hB3 h1 (fun w h=>h0 w (h3 w h)) h2
theorem amR{S0:World→Prop}{id:Nat}{a:Act}{w:World}{os:List Oper}{n:Nat}{π:Pi}(hm:P.follows .mixedOrders=true)(hB:Zu os.toArray n π=true)(hS:S {w with drawn:=w.drawn+1})(h0: ∀w,S w→S0 w)
  (h:oA P os.toArray (F6 Q) S0 (fun a w=>wpList P os.toArray (F6 Q) (os.drop n) a w) S π a {w with drawn:=w.drawn+1}):(Code.region id os.toArray true).wp P Q a w:=by
 refine Sb (Q:=Q) ?_;simp only[Zu,Bool.and_eq_true,decide_eq_true_eq]at hB;obtain⟨⟨⟨⟨⟨ig,hn⟩,hl⟩,O9⟩,hc⟩,hB⟩:=hB
 have hs:n=os.toArray.size∨Region.sinkB .any os.toArray n=true:=by
  rw[Bool.or_eq_true]at O9;exact O9.imp (fun h=>Nat.eq_of_beq_eq_true h) (fun h=>h)
 have Pj:HeadInv .any os.toArray n (Array.replicate os.toArray.size false):=by
  refine⟨by simp,fun j oj _ h=>?_,fun t _ ZJ=>?_⟩
  ·rw[getD_replicate_false]at h;cases h
  ·have:t<os.length:=by simpa using ZJ
   simp[this]
 have h1:=gQ (md:= .any) ig hs hc hn (Q:=F6 Q) (fun c a w h=>h) π S _ a _ Pj hB hS h0 h;refine wp_region_any hm ?_;have vD:os.toArray.size=π.len+(os.toArray.size-n):=by omega
 rw[vD];rw[←vD];have h2:=zp (g:=os.toArray.size-n) (Q:=F6 Q) (P:=P) (ops:=os.toArray) (md:= .any) (fun aC a w hh=>?_) π.len S _ a _ h1
 ·rw[←vD]at h2;exact h2
 ·obtain⟨h3,h4⟩:=hh;have Ls:(os.drop n).length=os.toArray.size-n:=by simp
  have:=wpAny_of_seq (P:=P) (ops:=os.toArray) (Q':=F6 Q) (os.drop n) n aC a w (fun j=>by simp) (by rw[Ls];exact h3) h4
  rwa[Ls]at this
end
section
variable {P : Program} {ops : Array Oper} {n : Nat} {Q : Exit → Act → World → Prop} {l : List (Nat × Value)} {L Lh : List ax} {π : Pi} {tail : List Oper}
def Sn [Env](P:Program)(ops:Array Oper)(n:Nat)(tail:List Oper)(Q:Exit→Act→World→Prop)(Lh:List ax)(π:Pi)(l:List (Nat × Value))(L:List ax):Prop:=
 ∀a w,Fr n l a→Has w L→oA P ops Q (fun w=>Has w []) (fun a w=>wpList P ops Q tail a w) (fun w=>Has w Lh) π a w
theorem Has.none [Env]{w:World}{L:List ax}(h:Has w L):Has w []:=Ge.nil.has h
theorem kO [Env]{id:Nat}{os:List Oper}(m:Nat)(π:Pi)(Lh:List ax)(hm:P.follows .mixedOrders=true)(hB:Zu os.toArray m π=true)(hg:Ge L Lh)
  (h:Sn P os.toArray n (os.drop m) (F6 Q) Lh π l L):Sc P n (.region id os.toArray true) Q l L:=
 fun a w hf hh=>amR hm hB (hg.has (hh.drawn _)) (fun w h=>Has.none h) (h a _ hf (hh.drawn _))
theorem ik [Env](h:Sy P ops n tail Q l L):Sn P ops n tail Q Lh .nil l L:=h
theorem mu [Env]{i j:Nat}{ρ:Pi}(h1:Sn P ops n tail Q Lh (.op i 2 π) l L)(h2:Sn P ops n tail Q Lh (.op j 2 ρ) l L):Sn P ops n tail Q Lh (.fork i π j ρ) l L:=
 fun a w hf hh=>⟨h1 a w hf hh,h2 a w hf hh⟩
theorem nr [Env]{i:Nat}{d:Tmp}{op:Op}{ty:TypeId}{pos:String}{af:Array Edge}{v:Value}(ho:ops[i]? =some ⟨some d,op,ty,pos,af,none⟩)(he:Ev P n ⟨some d,op,ty,pos,af,none⟩ l Lh v)(hd:Nat.blt d n=true)
  (k:Sn P ops n tail Q Lh π ((d,v)::l) L):Sn P ops n tail Q Lh (.op i 1 π) l L:=
 fun a w hf hh=>⟨_,v,ho,.inl ⟨by simp[Region.wanted],fun w' JH=>he a w' hf JH⟩,k _ w (hf.put hd v) hh⟩
theorem nr1 [Env]{i j t:Nat}{b:Bool}{d:Tmp}{op:Op}{ty:TypeId}{pos:String}{af:Array Edge}{v:Value}(ho:ops[i]? =some ⟨some d,op,ty,pos,af,some (j,b)⟩)(hj:cB ops j=some t)(hl:look l t=some (.bool b))
  (he:Ev P n ⟨some d,op,ty,pos,af,some (j,b)⟩ l Lh v) (hd:Nat.blt d n=true)
  (k:Sn P ops n tail Q Lh π ((d,v)::l) L):Sn P ops n tail Q Lh (.op i 1 π) l L:=
 fun a w hf hh=>⟨_,v,ho,.inl ⟨by simp[Region.wanted,eA hj hf hl],fun w' JH=>he a w' hf JH⟩,k _ w (hf.put hd v) hh⟩
theorem nz [Env]{i:Nat}{d:Tmp}{op:Op}{ty:TypeId}{pos:String}{af:Array Edge}{v:Value}(ho:ops[i]? =some ⟨some d,op,ty,pos,af,none⟩)(he:Ev P n ⟨some d,op,ty,pos,af,none⟩ l [] v)(hd:Nat.blt d n=true)
  (k:Sn P ops n tail Q Lh π ((d,v)::l) L):Sn P ops n tail Q Lh (.op i 0 π) l L:=
 fun a w hf hh=>⟨_,v,ho,.inl ⟨by simp[Region.wanted],fun w' JH=>he a w' hf JH⟩,k _ w (hf.put hd v) hh⟩
theorem oL [Env]{i j t:Nat}{b:Bool}{d:Tmp}{op:Op}{ty:TypeId}{pos:String}{af:Array Edge}{v:Value}(ho:ops[i]? =some ⟨some d,op,ty,pos,af,some (j,b)⟩)(hj:cB ops j=some t)(hl:look l t=some (.bool b))
  (he:Ev P n ⟨some d,op,ty,pos,af,some (j,b)⟩ l [] v) (hd:Nat.blt d n=true)
  (k:Sn P ops n tail Q Lh π ((d,v)::l) L):Sn P ops n tail Q Lh (.op i 0 π) l L:=
 fun a w hf hh=>⟨_,v,ho,.inl ⟨by simp[Region.wanted,eA hj hf hl],fun w' JH=>he a w' hf JH⟩,k _ w (hf.put hd v) hh⟩
theorem nr0 [Env]{i j t:Nat}{b c:Bool}{d:Tmp}{op:Op}{ty:TypeId}{pos:String}{af:Array Edge}(ho:ops[i]? =some ⟨some d,op,ty,pos,af,some (j,c)⟩)(hj:cB ops j=some t)(hl:look l t=some (.bool b))(hb:(b==c)=false)(hd:Nat.blt d n=true)
  (k:Sn P ops n tail Q Lh π ((d,undef)::l) L):Sn P ops n tail Q Lh (.op i 1 π) l L:=
 fun a w hf hh=>⟨_,undef,ho,.inr ⟨by simp[Region.wanted,eA hj hf hl];intro e;subst e;simp at hb,rfl⟩,k _ w (hf.put hd undef) hh⟩
theorem om [Env](t:Nat){b:Bool}(hl:look l t=some (.bool b))(h1:b=true→Sn P ops n tail Q Lh π ((t,.bool true)::l) L)(h0:b=false→Sn P ops n tail Q Lh π ((t,.bool false)::l) L):
  Sn P ops n tail Q Lh π l L:=by
 intro a w hf hh
 have same: ∀c:Bool,b=c→Fr n ((t,.bool c)::l) a:=by
  rintro c rfl;refine⟨hf.size,hf.defers,fun u v hu=>?_⟩
  by_cases e:Nat.beq t u=true
  ·have:t=u:=by simpa using e
   subst this;simp only[look,e,cond_true]at hu;exact hf.get t v (hl.trans hu)
  ·simp only[look,e,cond_false]at hu;exact hf.get u v hu
 cases b
 ·exact h0 rfl a w (same false rfl) hh
 ·exact h1 rfl a w (same true rfl) hh
theorem na [Env]{i:Nat}{d:Tmp}{op:Op}{ty:TypeId}{pos:String}{af:Array Edge}{K:Value→List ax→Prop}(ho:ops[i]? =some ⟨some d,op,ty,pos,af,none⟩)(he:Ac P n ⟨some d,op,ty,pos,af,none⟩ l L K)(hd:Nat.blt d n=true)
  (k: ∀v L',K v L'→Ge L' Lh∧Sn P ops n tail Q Lh π ((d,v)::l) L'):Sn P ops n tail Q Lh (.op i 2 π) l L:=by
 intro a w hf hh;unfold oA wpOp;simp only[ho];rw[if_pos (by simp[Region.wanted])];refine .inl ?_;unfold Oper.wp;obtain⟨v,w',L',hr|⟨hr,rfl⟩,hk,fU⟩:=he a w hf hh
 ·rw[hr];exact⟨_,(k v L' hk).1.has fU,(fun _ h=>h),(k v L' hk).2 _ w' (hf.put hd v) fU⟩
 ·rw[hr];exact⟨_,(k _ L' hk).1.has fU,(fun _ h=>h),(k _ L' hk).2 _ w' (hf.put hd _) fU⟩
theorem UX [Env]{i:Nat}{op:Op}{ty:TypeId}{pos:String}{af:Array Edge}{K:Value→List ax→Prop}(ho:ops[i]? =some ⟨none,op,ty,pos,af,none⟩)(he:Ac P n ⟨none,op,ty,pos,af,none⟩ l L K)
  (k: ∀v L',K v L'→Ge L' Lh∧Sn P ops n tail Q Lh π l L'):Sn P ops n tail Q Lh (.op i 2 π) l L:=by
 intro a w hf hh;unfold oA wpOp;simp only[ho];rw[if_pos (by simp[Region.wanted])];refine .inl ?_;unfold Oper.wp;obtain⟨v,w',L',hr|⟨hr,rfl⟩,hk,fU⟩:=he a w hf hh
 ·rw[hr];exact⟨_,(k v L' hk).1.has fU,(fun _ h=>h),(k v L' hk).2 _ w' hf fU⟩
 ·rw[hr];exact⟨_,(k _ L' hk).1.has fU,(fun _ h=>h),(k _ L' hk).2 _ w' hf fU⟩
theorem ah3 [Env](Lh':List ax){i:Nat}{op:Op}{ty:TypeId}{pos:String}{af:Array Edge}{K:Value→List ax→Prop}(ho:ops[i]? =some ⟨none,op,ty,pos,af,none⟩)(he:Ac P n ⟨none,op,ty,pos,af,none⟩ l L K)
  (k: ∀v L',K v L'→Ge L' Lh'∧Sn P ops n tail Q Lh' π l L'):Sn P ops n tail Q Lh (.op i 3 π) l L:=by
 intro a w hf hh;unfold oA wpOp;simp only[ho];rw[if_pos (by simp[Region.wanted])];refine .inl ?_;unfold Oper.wp;obtain⟨v,w',L',hr|⟨hr,rfl⟩,hk,fU⟩:=he a w hf hh
 ·rw[hr];exact⟨_,(k v L' hk).1.has fU,(fun w h=>Has.none h),(k v L' hk).2 _ w' hf fU⟩
 ·rw[hr];exact⟨_,(k _ L' hk).1.has fU,(fun w h=>Has.none h),(k _ L' hk).2 _ w' hf fU⟩
theorem FE{w:World}{a:Act}{d:Option Tmp}{ty:TypeId}{pos:String}{af:Array Edge}{g:Option (Nat × Bool)}{f:FuncId}{xs:List Operand}{ts:Array TypeId}{args:List Value}
  (hf:Fr n l a) (hx:Ga l xs=some args) (bg: ∀(args:Array Value) (w:World),(callFunc f args).run P w= .ok (.enter f args) w):
  (execOp a.eval (⟨d,.call {callee:= .value (.func f),args:=xs.toArray,argTypes:=ts},ty,pos,af,g⟩:Oper)).run P w= .ok (.enter f args.toArray) w:=by
 have:=mL hf hx;simp[execOp,resolve,Act.eval,Deferred.ofValue,invoke,bg,this]
theorem fy [Env]{i:Nat}{d:Tmp}{ty:TypeId}{pos:String}{af:Array Edge}{f:FuncId}{xs:List Operand}{ts:Array TypeId}{args:List Value}{pre R:List ax}{post:Value→List ax→Prop}
  (ho:ops[i]? =some ⟨some d,.call {callee:= .value (.func f),args:=xs.toArray,argTypes:=ts},ty,pos,af,none⟩) (hc:bC P f args pre R post) (hx:Ga l xs=some args)
  (bg: ∀(args:Array Value) (w:World),(callFunc f args).run P w= .ok (.enter f args) w) (ht:Tk L pre R) (hd:Nat.blt d n=true)
  (k: ∀v L',post v L'→Ge (L'++R) Lh∧Sn P ops n tail Q Lh π ((d,v)::l) (L'++R)):Sn P ops n tail Q Lh (.op i 2 π) l L:=by
 intro a w hf hh;unfold oA wpOp;simp only[ho];rw[if_pos (by simp[Region.wanted])];refine .inl ?_;unfold Oper.wp;rw[FE hf hx bg,Oper.upon_enter];refine(hc w (ht.has hh)).mono ?_;rintro e w' ⟨v,L',rfl,hp,fU⟩;exact⟨_,(k v L' hp).1.has fU,(fun _ h=>h),(k v L' hp).2 _ w' (hf.put hd v) fU⟩
theorem qo [Env]{i j t:Nat}{b c:Bool}{d:Tmp}{op:Op}{ty:TypeId}{pos:String}{af:Array Edge}(ho:ops[i]? =some ⟨some d,op,ty,pos,af,some (j,c)⟩)(hj:cB ops j=some t)(hl:look l t=some (.bool b))(hb:(b==c)=false)(hd:Nat.blt d n=true)
  (k:Sn P ops n tail Q Lh π ((d,undef)::l) L):Sn P ops n tail Q Lh (.op i 0 π) l L:=
 fun a w hf hh=>⟨_,undef,ho,.inr ⟨by simp[Region.wanted,eA hj hf hl];intro e;subst e;simp at hb,rfl⟩,k _ w (hf.put hd undef) hh⟩
theorem pM [Env]{i j t:Nat}{b:Bool}{d:Tmp}{ty:TypeId}{pos:String}{af:Array Edge}{f:FuncId}{xs:List Operand}{ts:Array TypeId}{args:List Value}{pre R:List ax}{post:Value→List ax→Prop}
  (ho:ops[i]? =some ⟨some d,.call {callee:= .value (.func f),args:=xs.toArray,argTypes:=ts},ty,pos,af,some (j,b)⟩) (hj:cB ops j=some t) (hl:look l t=some (.bool b)) (hc:bC P f args pre R post) (hx:Ga l xs=some args)
  (bg: ∀(args:Array Value) (w:World),(callFunc f args).run P w= .ok (.enter f args) w) (ht:Tk L pre R) (hd:Nat.blt d n=true)
  (k: ∀v L',post v L'→Ge (L'++R) Lh∧Sn P ops n tail Q Lh π ((d,v)::l) (L'++R)):Sn P ops n tail Q Lh (.op i 2 π) l L:=by
 intro a w hf hh;unfold oA wpOp;simp only[ho];rw[if_pos (by simp[Region.wanted,eA hj hf hl])];refine .inl ?_;unfold Oper.wp;rw[FE hf hx bg,Oper.upon_enter];refine(hc w (ht.has hh)).mono ?_;rintro e w' ⟨v,L',rfl,hp,fU⟩;exact⟨_,(k v L' hp).1.has fU,(fun _ h=>h),(k v L' hp).2 _ w' (hf.put hd v) fU⟩
theorem na1 [Env]{i j t:Nat}{b:Bool}{d:Tmp}{op:Op}{ty:TypeId}{pos:String}{af:Array Edge}{K:Value→List ax→Prop}(ho:ops[i]? =some ⟨some d,op,ty,pos,af,some (j,b)⟩)(hj:cB ops j=some t)(hl:look l t=some (.bool b))(he:Ac P n ⟨some d,op,ty,pos,af,some (j,b)⟩ l L K)(hd:Nat.blt d n=true)
  (k: ∀v L',K v L'→Ge L' Lh∧Sn P ops n tail Q Lh π ((d,v)::l) L'):Sn P ops n tail Q Lh (.op i 2 π) l L:=by
 intro a w hf hh;unfold oA wpOp;simp only[ho];rw[if_pos (by simp[Region.wanted,eA hj hf hl])];refine .inl ?_;unfold Oper.wp;obtain⟨v,w',L',hr|⟨hr,rfl⟩,hk,fU⟩:=he a w hf hh
 ·rw[hr];exact⟨_,(k v L' hk).1.has fU,(fun _ h=>h),(k v L' hk).2 _ w' (hf.put hd v) fU⟩
 ·rw[hr];exact⟨_,(k _ L' hk).1.has fU,(fun _ h=>h),(k _ L' hk).2 _ w' (hf.put hd _) fU⟩
end
section
variable {P : Program} {n : Nat} {l : List (Nat × Value)} {L : List ax}
theorem yk [Env]{fn:Func}{R L1:List ax}{post:Value→List ax→Prop}{t:Tmp}{T T':TypeId}{b k:Nat}{vs:List Value}(hr:fn.results= #[.cell t T])(hl:look l t=some (.pointer (some ⟨b,0,none⟩)))
  (ha: ∀w,(isAgg T).run P w= .ok true w) (hs: ∀w,(sizeOf T).run P w= .ok k w) (hi:In L (sc b vs T')) (hk:vs.length=k) (hg:Ge L L1) (hp: ∃L',post (.agg vs.toArray) L'∧L1=L'++R):
  Sk n (bodyPost P fn (CP post R) .ret) l L:=by
 obtain⟨L',h1,rfl⟩:=hp;intro a w hf hh;have h2:=mz hi ha hs hk hh;have h4:=hf.get t _ hl;simp only[Array.getD_eq_getD_getElem?]at h4
 have h3:(results fn a.tmps).run P w= .ok (.agg vs.toArray) w:=by
  simp[results,hr,h4,asAddr,h2]
 exact⟨hf.defers,_,h3,_,L',rfl,h1,hg.has hh⟩
end
section
variable {P : Program} {ops : Array Oper} {n : Nat} {rest : List Oper} {Q : Exit → Act → World → Prop} {l : List (Nat × Value)} {L : List ax}
theorem VU [Env]{L':List ax}(p:L.flatten.Perm L'.flatten)(h:Sy P ops n rest Q l L'):Sy P ops n rest Q l L:=fun a w hf hh=>h a w hf (hh.perm p)
end
end Go.Sl
namespace Go.Sl
section
variable {P : Program} {ops : Array Oper} {n : Nat} {Q : Exit → Act → World → Prop} {l : List (Nat × Value)} {L Lh : List ax} {π : Pi} {tail : List Oper}
theorem SL [Env]{i j t:Nat}{b c:Bool}{d:Tmp}{op:Op}{ty:TypeId}{pos:String}{af:Array Edge}(ho:ops[i]? =some ⟨some d,op,ty,pos,af,some (j,c)⟩)(hj:cB ops j=some t)(hl:look l t=some (.bool b))(hb:(b==c)=false)(hd:Nat.blt d n=true)(hg:Ge L Lh)
  (k:Sn P ops n tail Q Lh π ((d,undef)::l) L):Sn P ops n tail Q Lh (.op i 2 π) l L:=by
 intro a w hf hh;unfold oA wpOp;simp only[ho];rw[if_neg (by simp[Region.wanted,eA hj hf hl];intro e;subst e;simp at hb)];exact⟨_,hg.has hh,(fun _ h=>h),k _ w (hf.put hd undef) hh⟩
theorem aiH [Env]{i j t:Nat}{c:Bool}{d:Tmp}{op:Op}{ty:TypeId}{pos:String}{af:Array Edge}(ho:ops[i]? =some ⟨some d,op,ty,pos,af,some (j,c)⟩)(hj:cB ops j=some t)(hl:look l t=some undef)(hd:Nat.blt d n=true)
  (k:Sn P ops n tail Q Lh π ((d,undef)::l) L):Sn P ops n tail Q Lh (.op i 0 π) l L:=
 fun a w hf hh=>⟨_,undef,ho,.inr ⟨by simp[Region.wanted,kr hj hf hl],rfl⟩,k _ w (hf.put hd undef) hh⟩
end
theorem bC.ak3 [Env]{P:Program}{f:FuncId}{args:List Value}{pre Re R:List ax}{s:ax}{post:Value→List ax→Prop}(h:bC P f args Re (s::R) post)(hp:(pre++R).flatten.Perm (Re++s::R).flatten):bC P f args pre R post:=by
 intro w hh;refine(h w (hh.perm hp)).mono ?_;rintro e w' ⟨v,L',rfl,h1,h2⟩;refine⟨v,L',rfl,h1,h2.sub ⟨s,?_⟩⟩;simp only[List.flatten_append,List.flatten_cons,List.append_assoc];exact List.Perm.append_left _ List.perm_append_comm
end Go.Sl
namespace Go.Sl
class dM(P:Program)(s f:Nat)(off:outParam Nat):Prop where
 h: ∃fs t k,P.underlying s=some (.struct fs)∧(fs[f]?).map (fun fd=>(fd.offset,fd.type))=some (off,t)∧ ∀w,(sizeOf t).run P w= .ok (k+1) w
class ua(P:Program)(t:TypeId):Prop where
 h: ∀w,(isAgg t).run P w= .ok false w
inductive EI [Env](P:Program)(l:List (Nat × Value))(L:List ax):Op→Value→Prop
 |mv {x:Operand} {v:Value} (hx:ev l x=some v):EI P l L (.move x) v
 |nc {x:Operand} {a0:Addr} (hx:ev l x=some (.pointer (some a0))):EI P l L (.nilCheck x) (.pointer (some a0))
 |fa {s:TypeId} {x:Operand} {f b o off:Nat} [hu:dM P s f off] (hx:ev l x=some (.pointer (some ⟨b,o,none⟩))):EI P l L (.fieldAddr s x f) (.pointer (some ⟨b,o+off,none⟩))
 |ld {t:TypeId} {x:Operand} {b o:Nat} {vs:List Value} {T:TypeId} {fr:Nat × Nat} {v:Value} [ha:ua P t] (hx:ev l x=some (.pointer (some ⟨b,o,none⟩))) (hi:In L (so b (.cells vs.toArray T fr))) (hv:vs[o]? =some v):EI P l L (.load t x) v
 |sg {x:Operand} {v:Value} (hx:ev l x=some v):EI P l L (.assign x) v
 |pk {c x z:Operand} {b:Bool} {v:Value} (hc:ev l c=some (.bool b)) (hx:ev l (bif b then x else z)=some v):EI P l L (.pick c x z) v
 |xt {x:Operand} {vs:List Value} {i:Nat} {v:Value} (hx:ev l x=some (.tuple vs.toArray)) (hv:vs[i]? =some v):EI P l L (.extract x i) v
 |no {t:TypeId} {x:Operand} {p:Bool} (hx:ev l x=some (.bool p)):EI P l L (.unOp .not t x) (.bool (!p))
 |eq {t t':TypeId} {x y:Operand} {k:IntKind} {p q:Int} (hx:ev l x=some (.int k p)) (hy:ev l y=some (.int k q)):EI P l L (.binOp .eql t x y t') (.bool (decide (p=q)))
 |nq {t t':TypeId} {x y:Operand} {k:IntKind} {p q:Int} (hx:ev l x=some (.int k p)) (hy:ev l y=some (.int k q)):EI P l L (.binOp .neq t x y t') (.bool (!decide (p=q)))
 |lq {t t':TypeId} {x y:Operand} {k:IntKind} {p q:Int} (hx:ev l x=some (.int k p)) (hy:ev l y=some (.int k q)):EI P l L (.binOp .leq t x y t') (.bool (decide (p≤q)))
 |gt {t t':TypeId} {x y:Operand} {k:IntKind} {p q:Int} (hx:ev l x=some (.int k p)) (hy:ev l y=some (.int k q)):EI P l L (.binOp .gtr t x y t') (.bool (decide (q<p)))
 |ge {t t':TypeId} {x y:Operand} {k:IntKind} {p q:Int} (hx:ev l x=some (.int k p)) (hy:ev l y=some (.int k q)):EI P l L (.binOp .geq t x y t') (.bool (decide (q≤p)))
 |ad {t t':TypeId} {x y:Operand} {k:IntKind} {p q:Int} (hx:ev l x=some (.int k p)) (hy:ev l y=some (.int k q)):EI P l L (.binOp .add t x y t') (.int k (k.wrap (p+q)))
 |su {t t':TypeId} {x y:Operand} {k:IntKind} {p q:Int} (hx:ev l x=some (.int k p)) (hy:ev l y=some (.int k q)):EI P l L (.binOp .sub t x y t') (.int k (k.wrap (p-q)))
 |ls {t t':TypeId} {x y:Operand} {k:IntKind} {p q:Int} (hx:ev l x=some (.int k p)) (hy:ev l y=some (.int k q)):EI P l L (.binOp .lss t x y t') (.bool (decide (p<q)))
theorem EI.ev [Env]{P:Program}{n:Nat}{l:List (Nat × Value)}{L:List ax}{d:Option Tmp}{op:Op}{ty:TypeId}{pos:String}{af:Array Edge}{g:Option (Nat × Bool)}{v:Value}(h:EI P l L op v):Ev P n ⟨d,op,ty,pos,af,g⟩ l L v:=by
 cases h with
 |mv hx=>exact ba hx
 |nc hx=>exact fD hx
 |fa hx=>rename_i hu;obtain⟨fs,t,k,h1,h2,h3⟩:=hu.h;exact aT _ hx h1 h2 h3
 |ld hx hi hv=>rename_i ha;exact bR hx ha.h hi hv
 |sg hx=>exact uB hx
 |pk hc hx=>
  rename_i b
  cases b
  · exact sD hc hx
  · exact sE hc hx
 |xt hx hv=>exact cV hx hv
 |no hx=>exact G4 hx
 |eq hx hy=>exact uC hx hy
 |ls hx hy=>exact Oc hx hy
 |nq hx hy=>exact Yh hx hy
 |lq hx hy=>exact Yg hx hy
 |gt hx hy=>exact Ye hx hy
 |ge hx hy=>exact Yd hx hy
 |ad hx hy=>exact uA hx hy
 |su hx hy=>exact Yi hx hy
def gSt(ops:Array Oper)(l:List (Nat × Value)):Option (Nat × Bool)→Option Bool
 |none=>some true
 |some (j,c)=>match cB ops j with
  |none=>none
  |some t=>match look l t with
   |some (.bool b)=>some (b==c)
   |_=>none
inductive EO [Env](P:Program)(l:List (Nat × Value))(L:List ax):Bool→Op→Value→Prop
 |t {op:Op} {v:Value} (h:EI P l L op v):EO P l L true op v
 |f {op:Op}:EO P l L false op undef
inductive YI [Env](P:Program)(ops:Array Oper)(n:Nat)(L:List ax):Nat→List Oper→List (Nat × Value)→List Oper→List (Nat × Value)→Prop
 |st {k:Nat} {d:Tmp} {op:Op} {ty:TypeId} {pos:String} {af:Array Edge} {g:Option (Nat × Bool)} {os Kc:List Oper} {l l':List (Nat × Value)} {on:Bool} {v:Value} (hg:gSt ops l g=some on) (he:EO P l L on op v) (hd:Nat.blt d n=true) (r:YI P ops n L k os ((d,v)::l) Kc l'):YI P ops n L (k+1) (⟨some d,op,ty,pos,af,g⟩::os) l Kc l'
 |z {os:List Oper} {l:List (Nat × Value)}:YI P ops n L 0 os l os l
theorem BV{ops:Array Oper}{l:List (Nat × Value)}{j:Nat}{c on:Bool}(h:gSt ops l (some (j,c))=some on): ∃t b,cB ops j=some t∧look l t=some (.bool b)∧on=(b==c):=by
 unfold gSt at h;dsimp only at h;split at h
 ·cases h
 ·rename_i t ht
  split at h
  ·rename_i b hb
   exact⟨t,b,ht,hb,(Option.some.inj h).symm⟩
  ·cases h
theorem YI.run [Env]{P:Program}{ops:Array Oper}{n:Nat}{L:List ax}{k:Nat}{os Kc:List Oper}{l l':List (Nat × Value)}{Q:Exit→Act→World→Prop}(h:YI P ops n L k os l Kc l')(q:Sy P ops n Kc Q l' L):Sy P ops n os Q l L:=by
 induction h with
 |z=>exact q
 |st hg he hd r ih=>
  rename_i g _ _ _ _ on _
  cases he with
  |t he=>
   match g,hg with
   |none,_=>exact y he.ev hd (ih q)
   |some (j,c),hg=>
    obtain⟨t,b,h1,h2,h3⟩:=BV hg;have Y7:b=c:=eq_of_beq h3.symm;subst Y7;exact yg1 h1 h2 (y he.ev hd (ih q))
  |f=>
   match g,hg with
   |some (j,c),hg=>
    obtain⟨t,b,h1,h2,h3⟩:=BV hg;exact yg0 h1 h2 h3.symm hd (ih q)
theorem yr [Env]{P:Program}{ops:Array Oper}{n:Nat}{L:List ax}(k:Nat){os Kc:List Oper}{l l':List (Nat × Value)}{Q:Exit→Act→World→Prop}(q:Sy P ops n Kc Q l' L)(h:YI P ops n L k os l Kc l':=by repeat constructor):Sy P ops n os Q l L:=h.run q
class ub(P:Program)(t:TypeId)(pl:outParam (List (Nat × Nat)))(zs:outParam (List Value)):Prop where
 h: ∃fs zv,P.underlying t=some (.struct fs)∧(∀w,(zeroValue t).run P w= .ok zv w)∧zv.cells=zs.toArray∧qV P fs.toList pl
theorem cA [Env]{P:Program}{n:Nat}{l:List (Nat × Value)}{L:List ax}{d:Option Tmp}{ty:TypeId}{pos:String}{af:Array Edge}{g:Option (Nat × Bool)}{t:TypeId}{parts:List (Nat × Operand)}{ps:List (Nat × Value)}{zs:List Value}{pl:List (Nat × Nat)}(vs:List Value) [hb:ub P t pl zs](hp:zJ l parts=some ps:=by exact rfl)(cq:py pl zs.length ps:=by repeat constructor)(hv:bt pl zs ps=vs:=by kernel_rfl):
  Ev P n ⟨d,.build t parts.toArray,ty,pos,af,g⟩ l L (.agg vs.toArray):=by
 obtain⟨fs,zv,h1,h2,h3,h4⟩:=hb.h;exact jB hp h1 h2 h3 h4 cq hv
theorem bU [Env]{P:Program}{n:Nat}{l:List (Nat × Value)}{L:List ax}{d:Option Tmp}{ty:TypeId}{pos:String}{af:Array Edge}{g:Option (Nat × Bool)}{t:TypeId}{parts:List (Nat × Operand)}{ps:List (Nat × Value)}{zs vs:List Value}{pl:List (Nat × Nat)} [hb:ub P t pl zs](hp:zJ l parts=some ps)(cq:py pl zs.length ps:=by repeat constructor)(hv:bt pl zs ps=vs:=by(dsimp[bt,aX,aY]<;>rfl)):
  Ev P n ⟨d,.build t parts.toArray,ty,pos,af,g⟩ l L (.agg vs.toArray):=by
 obtain⟨fs,zv,h1,h2,h3,h4⟩:=hb.h;exact jB hp h1 h2 h3 h4 cq hv
theorem DN [Env]{P:Program}{n id:Nat}{os:List Oper}{z:Code}{Q:Exit→Act→World→Prop}{l:List (Nat × Value)}{L:List ax}(h:Sy P os.toArray n os (Exit.then (z.wp P Q) Q) l L):Sc P n (.seq (.region id os.toArray false) z) Q l L:=Wd (uq h)
theorem Nd [Env]{P:Program}{ops:Array Oper}{n:Nat}{z:Code}{Q:Exit→Act→World→Prop}{l:List (Nat × Value)}{L:List ax}(h:Sc P n z Q l L):Sy P ops n [] (Exit.then (z.wp P Q) Q) l L:=nJ (eB h)
theorem cy [Env]{P:Program}{n id:Nat}{L:List ax}(k:Nat){z:Code}{os Kc:List Oper}{l l':List (Nat × Value)}{Q:Exit→Act→World→Prop}(q:Sy P os.toArray n Kc (Exit.then (z.wp P Q) Q) l' L)(h:YI P os.toArray n L k os l Kc l':=by repeat constructor):Sc P n (.seq (.region id os.toArray false) z) Q l L:=DN (h.run q)
theorem vk [Env]{P:Program}{n id:Nat}{L:List ax}(k:Nat){z:Code}{os:List Oper}{l l':List (Nat × Value)}{Q:Exit→Act→World→Prop}(q:Sc P n z Q l' L)(h:YI P os.toArray n L k os l [] l':=by repeat constructor):Sc P n (.seq (.region id os.toArray false) z) Q l L:=DN (h.run (Nd q))
theorem yn [Env]{P:Program}{ops:Array Oper}{n:Nat}{L:List ax}(k:Nat){z:Code}{os:List Oper}{l l':List (Nat × Value)}{Q:Exit→Act→World→Prop}(q:Sc P n z Q l' L)(h:YI P ops n L k os l [] l':=by repeat constructor):Sy P ops n os (Exit.then (z.wp P Q) Q) l L:=h.run (Nd q)
theorem cr [Env]{P:Program}{n id:Nat}{L:List ax}(k:Nat){os Kc:List Oper}{l l':List (Nat × Value)}{Q:Exit→Act→World→Prop}(q:Sy P os.toArray n Kc Q l' L)(h:YI P os.toArray n L k os l Kc l':=by repeat constructor):Sc P n (.region id os.toArray false) Q l L:=uq (h.run q)
theorem bA [Env]{P:Program}{ops:Array Oper}{n:Nat}{rest:List Oper}{Q:Exit→Act→World→Prop}{l:List (Nat × Value)}{L L1:List ax}{op:Op}{ty:TypeId}{pos:String}{af:Array Edge}(he:Ac P n ⟨none,op,ty,pos,af,none⟩ l L (KTo L1))(k:Sy P ops n rest Q l L1):Sy P ops n (⟨none,op,ty,pos,af,none⟩::rest) Q l L:=
 Xf he (by rintro v L' ⟨-,rfl⟩;exact k)
theorem bK [Env]{P:Program}{ops:Array Oper}{n:Nat}{rest:List Oper}{Q:Exit→Act→World→Prop}{l:List (Nat × Value)}{L L1 R pre:List ax}{d:Tmp}{ty:TypeId}{pos:String}{af:Array Edge}{f:FuncId}{xs:List Operand}{ts:Array TypeId}{args:List Value}{v:Value}(hc:bC P f args pre R (Is v L1))(bg: ∀(args:Array Value) (w:World),(callFunc f args).run P w= .ok (.enter f args) w)(k:Sy P ops n rest Q ((d,v)::l) (L1++R))(hx:Ga l xs=some args:=by exact rfl)(ht:Tk L pre R:=by repeat first|exact .nil|exact .z|apply Pk.s|apply Tk.cons)(hd:Nat.blt d n=true:=by exact rfl):
  Sy P ops n (⟨some d,.call {callee:= .value (.func f),args:=xs.toArray,argTypes:=ts},ty,pos,af,none⟩::rest) Q l L:=
 aA hc hx bg ht hd (by rintro u L' ⟨rfl,rfl⟩;exact k)
def od(F:List Nat):Nat→Nat→List (Nat × Bool)
 |0,_=>[]
 |k+1,i=>(i,!F.contains i)::od F k (i+1)
inductive HI [Env](P:Program)(ops:Array Oper)(n:Nat)(L:List ax):Nat→List (Nat × Bool)→List (Nat × Value)→List (Nat × Bool)→List (Nat × Value)→Prop
 |st {k i:Nat} {d:Tmp} {op:Op} {ty:TypeId} {pos:String} {af:Array Edge} {g:Option (Nat × Bool)} {π π':List (Nat × Bool)} {l l':List (Nat × Value)} {on:Bool} {v:Value} (ho:ops[i]? =some ⟨some d,op,ty,pos,af,g⟩) (hg:gSt ops l g=some on) (he:EO P l L on op v) (hd:Nat.blt d n=true) (r:HI P ops n L k π ((d,v)::l) π' l'):HI P ops n L (k+1) ((i,true)::π) l π' l'
 |z {π:List (Nat × Bool)} {l:List (Nat × Value)}:HI P ops n L 0 π l π l
theorem HI.run [Env]{P:Program}{ops:Array Oper}{n:Nat}{tail:List Oper}{L Lh:List ax}{k:Nat}{π π':List (Nat × Bool)}{l l':List (Nat × Value)}{Q:Exit→Act→World→Prop}(h:HI P ops n Lh k π l π' l')(q:Sh P ops n tail Q Lh π' l' L):Sh P ops n tail Q Lh π l L:=by
 induction h with
 |z=>exact q
 |st ho hg he hd r ih=>
  rename_i g _ _ _ _ on _
  cases he with
  |t he=>
   match g,hg,ho with
   |none,_,ho=>exact hr ho he.ev hd (ih q)
   |some (j,c),hg,ho=>
    obtain⟨t,b,h1,h2,h3⟩:=BV hg;have Y7:b=c:=eq_of_beq h3.symm;subst Y7;exact ko ho h1 h2 he.ev hd (ih q)
  |f=>
   match g,hg,ho with
   |some (j,c),hg,ho=>
    obtain⟨t,b,h1,h2,h3⟩:=BV hg;exact EK ho h1 h2 h3.symm hd (ih q)
theorem hy [Env]{P:Program}{ops:Array Oper}{n:Nat}{tail:List Oper}{L Lh:List ax}(k:Nat){π π':List (Nat × Bool)}{l l':List (Nat × Value)}{Q:Exit→Act→World→Prop}(q:Sh P ops n tail Q Lh π' l' L)(h:HI P ops n Lh k π l π' l':=by repeat constructor):Sh P ops n tail Q Lh π l L:=h.run q
end Go.Sl