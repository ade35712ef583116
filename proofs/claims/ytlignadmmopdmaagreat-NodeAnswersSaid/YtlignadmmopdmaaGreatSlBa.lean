/- A part of the proof. -/
import Derived.Test.YtlignadmmopdmaaGreatGB
import Derived.DeepKeys3
set_option linter.unusedVariables false
set_option linter.unusedSimpArgs false
set_option linter.constructorNameAsVariable false
namespace Go.Sl
theorem nodup_ix{α:Type}{l:List α}(h:l.Nodup){i j:Nat}(hi:i<l.length)(hj:j<l.length)(e:l[i]=l[j]):i=j:=by
 rcases Nat.lt_trichotomy i j with h1|h1|h1
 · exact absurd e (List.pairwise_iff_getElem.1 h i j hi hj h1)
 · exact h1
 · exact absurd e.symm (List.pairwise_iff_getElem.1 h j i hj hi h1)
abbrev Kp:=List ((Int × Int) × Int × Nat)
def pairV(k:Int × Int):Value:= .agg #[.int .i64 k.1,.int .i64 k.2]
def entp(x:(Int × Int) × Int × Nat):MapEntry:=⟨pairV x.1,.int .i64 x.2.1,x.2.2⟩
def entsp(kv:Kp):Array MapEntry:=(kv.map entp).toArray
def pget(kv:Kp)(k:Int × Int):Int:=match kv.find? (fun x=>decide (x.1=k))with
 |some x=>x.2.1
 |none=>0
def phas(kv:Kp)(k:Int × Int):Bool:=kv.any fun x=>decide (x.1=k)
def pins(kv:Kp)(c:Nat)(k:Int × Int):Kp:=if phas kv k=true then kv else kv++[(k,0,c)]
def pclk(kv:Kp)(c:Nat)(k:Int × Int):Nat:=if phas kv k=true then c else c+1
def pset(kv:Kp)(k:Int × Int)(v:Int):Kp:=kv.map fun x=>if x.1=k then(k,v,x.2.2)else x
def pIn(k:Int × Int):Prop:=(-9223372036854775808≤k.1∧k.1≤9223372036854775807)∧(-9223372036854775808≤k.2∧k.2≤9223372036854775807)
/-- Each key once, each birth once; all born ahead of the clock; all keys are numbers of 64 bits. -/
structure Pok(kv:Kp)(c:Nat):Prop where
 keys:(kv.map (·.1)).Nodup
 born:(kv.map (·.2.2)).Nodup
 lt: ∀x∈kv,x.2.2<c
 inn: ∀x∈kv,pIn x.1
/-- What a pair's type is. -/
class PairT(P:Program)(K:TypeId):Prop where
 law:WideMaps.KeyLaw P K
 key: ∀k,pIn k→ ∃l,keyOf P K (pairV k)=some l
theorem pairT_of{P:Program}{K e:TypeId}{m:Nat}(hm:m+1≤10000)(hk:P.keyTypeAt m K=true)(ht:P.tiled m K=true)(hu:P.underlying K=some (.array 2 e))(he:P.underlying e=some (.int .i64))(hkt:P.keyType K=true)(hck:P.cellsOf K=2)(hce:P.cellsOf e=1)(hs:1≤P.types.size):PairT P K:=
 ⟨deep_law hm hk ht (by rw[hu]),fun k hk=>by
  obtain⟨z,hz⟩: ∃z,P.types.size=z+1:=⟨P.types.size- 1,by omega⟩
  have h1: ∀x,-9223372036854775808≤x→x≤9223372036854775807→P.keyLits (z+1) e [.int .i64 x]=some [.int .i64 x]:=fun x a b=>by
   unfold Program.keyLits;rw[he];dsimp only;rw[if_pos];exact⟨rfl,by simp[Lit.wf,IntKind.min,IntKind.max,IntKind.signed,IntKind.bits];omega⟩
  have h2:P.keyLits (z+1+1) K [.int .i64 k.1,.int .i64 k.2]=some [.int .i64 k.1,.int .i64 k.2]:=by
   unfold Program.keyLits;rw[hu];dsimp only;rw[if_pos (by simp[hck]),hce];have a:=h1 k.1 hk.1.1 hk.1.2;have b:=h1 k.2 hk.2.1 hk.2.2;simp[List.range_succ,a,b]
  refine⟨.string (keyBytes [.int .i64 k.1,.int .i64 k.2]),?_⟩;unfold keyOf;rw[hu];dsimp only;rw[if_pos (by simp[hkt,Value.formed,pairV,hu,hck]),hz,show(pairV k).cells.toList=[.int .i64 k.1,.int .i64 k.2]from rfl,h2];rfl⟩
section
variable {P : Program} {n : Nat} {l : List (Nat × Value)} {L : List Seg} {d : Option Tmp} {ty : TypeId} {pos : String} {af : Array Edge} {g : Option (Nat × Bool)}
theorem pairV_inj{a b:Int × Int}(h:pairV a=pairV b):a=b:=by
 simp only[pairV,Value.agg.injEq,Array.mk.injEq,List.cons.injEq,Value.int.injEq,and_true,true_and]at h;exact Prod.ext h.1 h.2
theorem pget_at{kv:Kp}{c:Nat}(hq:Pok kv c){k:Int × Int}{j:Nat}{x:(Int × Int) × Int × Nat}(hj:kv[j]? =some x)(hx:x.1=k):kv.find? (fun x=>decide (x.1=k))=some x:=by
 have hn:=hq.keys;have hm:=List.mem_of_getElem? hj;clear hq hj
 induction kv with
 |nil=>cases hm
 |cons y kv ih=>
  rw[List.map_cons,List.nodup_cons]at hn;rcases List.mem_cons.1 hm with rfl|hm
  ·simp[hx]
  ·have: ¬y.1=k:=fun e=>hn.1 (List.mem_map.2 ⟨x,hm,hx.trans e.symm⟩)
   simp[this,ih hn.2 hm]
theorem pfind_none{kv:Kp}{k:Int × Int}(h:phas kv k=false):kv.find? (fun x=>decide (x.1=k))=none:=by
 rw[List.find?_eq_none];intro x hx he;have:phas kv k=true:=List.any_eq_true.2 ⟨x,hx,he⟩;rw[h]at this;cases this
theorem run_pfind{kv:Kp}{c:Nat}{K:TypeId}(T:PairT P K)(hq:Pok kv c){k:Int × Int}(hk:pIn k)(w:World):
  (phas kv k=false∧(Instr.findKey K (pairV k) (entsp kv).toList).run P w= .ok none w)∨
  ∃j x,kv[j]? =some x∧x.1=k∧phas kv k=true∧(Instr.findKey K (pairV k) (entsp kv).toList).run P w= .ok (some (j,.int .i64 x.2.1)) w:=by
 obtain⟨lx,hlx⟩:=T.key k hk
 have hall: ∀e∈(entsp kv).toList,∃l,keyOf P K e.key=some l:=fun e he=>by
  obtain⟨x,hx,rfl⟩:=List.mem_map.1 (show e∈kv.map entp by simpa[entsp]using he);exact T.key _ (hq.inn x hx)
 rcases T.law.find w hlx _ hall with⟨h1,h2⟩|⟨j,e,h1,h2,h3⟩
 ·refine .inl ⟨?_,h1⟩;rw[Bool.eq_false_iff];intro h;obtain⟨x,hx,he⟩:=List.any_eq_true.1 h;have he:x.1=k:=by simpa using he
  exact h2 (entp x) (by simp only[entsp,List.mem_map];exact⟨x,hx,rfl⟩) (by rw[←he];rfl)
 ·have h2:(kv.map entp)[j]? =some e:=by simpa[entsp]using h2
  rw[List.getElem?_map]at h2;cases hj:kv[j]? with
  |none=>rw[hj]at h2;cases h2
  |some x=>
   rw[hj]at h2;simp only[Option.map_some,Option.some.injEq]at h2;subst h2;have hxk:x.1=k:=pairV_inj h3;exact .inr ⟨j,x,hj,hxk,List.any_eq_true.2 ⟨x,List.mem_of_getElem? hj,by simpa using hxk⟩,h1⟩
theorem run_pcheck{K:TypeId}(T:PairT P K){k:Int × Int}(hk:pIn k)(em:Bool)(w:World):(Instr.checkKey em 10000 K (pairV k)).run P w= .ok () w:=by
 obtain⟨lx,hlx⟩:=T.key k hk;exact T.law.check w em hlx
theorem ev_plookup [Env]{T K E:TypeId}{x y:Operand}{b c:Nat}{kv:Kp}{k:Int × Int}(hx:ev l x=some (.map (some b)))(hy:ev l y=some (pairV k))(hu:P.underlying T=some (.map K E))(hT:PairT P K)
  (hz: ∀w,(zeroValue E).run P w= .ok (.int .i64 0) w) (hi:In L (so b (.map (entsp kv) c))) (hq:Pok kv c) (hk:pIn k):
  Ev P n ⟨d,.lookup T x y false,ty,pos,af,g⟩ l L (.int .i64 (pget kv k)):=
 fun a w hf hh=>by
  have hb:=hh.obj hi;rcases run_pfind hT hq hk w with⟨h1,h2⟩|⟨j,z,h1,h2,h3,h4⟩
  · simp[execOp,hf.ev hx,hf.ev hy,Instr.lookup,run_underlying hu,run_getObj hb,run_pcheck hT hk,h2,hz w,pget,pfind_none h1,Result.andThen]
  · simp[execOp,hf.ev hx,hf.ev hy,Instr.lookup,run_underlying hu,run_getObj hb,run_pcheck hT hk,h4,pget,pget_at hq h1 h2,Result.andThen]
/-- When a key's entry was born. -/
def pborn(kv:Kp)(c:Nat)(k:Int × Int):Nat:=match kv.find? (fun x=>decide (x.1=k))with
 |some x=>x.2.2
 |none=>c
theorem ac_mapEntryP [Env]{T K E:TypeId}{x y:Operand}{b c:Nat}{kv:Kp}{k:Int × Int}{L':List Seg}(hx:ev l x=some (.map (some b)))(hy:ev l y=some (pairV k))(hu:P.underlying T=some (.map K E))(hT:PairT P K)
  (hz: ∀w,(zeroValue E).run P w= .ok (.int .i64 0) w) (hq:Pok kv c) (hk:pIn k) (r:Rp L (so b (.map (entsp kv) c)) (so b (.map (entsp (pins kv c k)) (pclk kv c k))) L'):
  Ac P n ⟨d,.mapEntry T x y,ty,pos,af,g⟩ l L (fun v L''=>v= .tuple #[.int .i64 (pget kv k),.int .i64 (pborn kv c k)]∧L''=L'):=by
 intro a w hf hh;have hb:=hh.obj r.pk.choose_spec.1.in;refine⟨.tuple #[.int .i64 (pget kv k),.int .i64 (pborn kv c k)],setB w b (.map (entsp (pins kv c k)) (pclk kv c k)),L',.inl ?_,⟨rfl,rfl⟩,hh.setB r⟩;obtain⟨lx,hlx⟩:=hT.key k hk;rcases run_pfind hT hq hk w with⟨h1,h2⟩|⟨j,z,h1,h2,h3,h4⟩
 ·have e1:entsp (pins kv c k)=(entsp kv).push {key:=pairV k,val:= .int .i64 0,born:=c}:=by
   unfold pins;rw[if_neg (by rw[h1];exact Bool.false_ne_true)];simp[entsp,entp]
  have e2:pclk kv c k=c+1:=by unfold pclk;rw[if_neg (by rw[h1];exact Bool.false_ne_true)]
  rw[e1,e2];simp[execOp,hf.ev hx,hf.ev hy,Instr.mapEntry,run_underlying hu,run_getObj hb,run_pcheck hT hk,h2,hz w,pget,pborn,pfind_none h1,run_setObj hb,Result.andThen,goInt]
 ·have e1:pins kv c k=kv:=by unfold pins;rw[if_pos h3]
  have e2:pclk kv c k=c:=by unfold pclk;rw[if_pos h3]
  have hj:(entsp kv)[j]? =some (entp z):=by simp[entsp,h1]
  have hm:(entsp kv).modify j (fun e=>{e with key:=pairV k})=entsp kv:=by
   unfold entsp;rw[List.modify_toArray];congr 1;apply List.ext_getElem?;intro i;rw[List.getElem?_modify]
   by_cases c:j=i
   · subst c;simp[h1,entp,h2]
   · simp[c]
  have hs:=hT.law.stays w hlx;rw[e1,e2];have hkey:(((entsp kv)[j]?).map (·.key)).getD (pairV k)=pairV k:=by rw[hj,Option.map_some,Option.getD_some,←h2];rfl
  simp only[execOp,hf.ev hx,hf.ev hy,Instr.mapEntry,Sem.run_bind,run_underlying hu,Result.andThen_ok,run_getObj hb,run_pcheck hT hk,h4,hkey,hs,hm,run_setObj hb,pget,pborn,pget_at hq h1 h2,Sem.run_pure];simp[hj,goInt,entp]
theorem ac_entryStoreP [Env]{T:TypeId}{x y z:Operand}{b c q:Nat}{kv:Kp}{k:Int × Int}{v:Int}{L':List Seg}(hx:ev l x=some (.map (some b)))(hy:ev l y=some (.int .i64 (q:Int)))(hz:ev l z=some (.int .i64 v))
  (hq:Pok kv c) (hk: ∃x∈kv,x.1=k∧x.2.2=q) (r:Rp L (so b (.map (entsp kv) c)) (so b (.map (entsp (pset kv k v)) c)) L'):
  Ac P n ⟨d,.entryStore T x y z,ty,pos,af,g⟩ l L (KTo L'):=by
 intro a w hf hh;have hb:=hh.obj r.pk.choose_spec.1.in;refine⟨undef,setB w b (.map (entsp (pset kv k v)) c),L',.inr ⟨?_,rfl⟩,⟨rfl,rfl⟩,hh.setB r⟩;obtain⟨x0,hx0,hxk,hxq⟩:=hk;obtain⟨j,hj,hjx⟩:=List.mem_iff_getElem.1 hx0
 have hf1:(entsp kv).findIdx? (fun e=>(e.born:Int)==(q:Int))=some j:=by
  rw[Array.findIdx?_eq_some_iff_getElem];refine⟨by simp[entsp];exact hj,by simp[entsp,entp,hjx,hxq],fun i hi=>?_⟩;simp only[entsp,List.getElem_toArray,List.getElem_map,entp,beq_iff_eq,Bool.not_eq_true',beq_eq_false_iff_ne,ne_eq];intro e;have hn:=hq.born;have hij:i<kv.length:=by omega
  have e2:(kv.map (·.2.2))[i]'(by simpa using hij)=(kv.map (·.2.2))[j]'(by simpa using hj):=by
   simp only[List.getElem_map,hjx,hxq];omega
  have:=nodup_ix hn (by simpa using hij) (by simpa using hj) e2;omega
 have hm:(entsp kv).modify j (fun e=>{e with val:= .int .i64 v})=entsp (pset kv k v):=by
  unfold entsp;rw[List.modify_toArray];congr 1;apply List.ext_getElem?;intro i;rw[List.getElem?_modify];unfold pset;simp only[List.getElem?_map,Option.map_map]
  by_cases c:j=i
  ·subst c;rw[List.getElem?_eq_getElem hj,hjx];simp[entp,hxk]
  ·cases hi:kv[i]? with
   |none=>simp
   |some y=>
    have hne: ¬y.1=k:=fun e=>by
     have hil:i<kv.length:=by
      by_cases h:i<kv.length
      · exact h
      · rw[List.getElem?_eq_none (by omega)]at hi;cases hi
     have hyi:kv[i]=y:=by rw[List.getElem?_eq_getElem hil]at hi;exact Option.some.inj hi
     have e2:(kv.map (·.1))[i]'(by simpa using hil)=(kv.map (·.1))[j]'(by simpa using hj):=by
      simp only[List.getElem_map,hjx,hyi];rw[e,hxk]
     have:=nodup_ix hq.keys (by simpa using hil) (by simpa using hj) e2;omega
    simp[c,hne]
 simp[execOp,hf.ev hx,hf.ev hy,hf.ev hz,Instr.entryStore,run_getObj hb,asInt,asIntOf,hf1,hm,run_setObj hb,Result.andThen]
end
theorem Pok.nil:Pok [] 0:=⟨List.nodup_nil,List.nodup_nil,fun x hx=>(by cases hx),fun x hx=>by cases hx⟩
theorem Pok.ins{kv:Kp}{c:Nat}(h:Pok kv c){k:Int × Int}(hk:pIn k):Pok (pins kv c k) (pclk kv c k):=by
 unfold pins pclk
 by_cases q:phas kv k=true
 ·rw[if_pos q,if_pos q];exact h
 ·rw[if_neg q,if_neg q];refine⟨?_,?_,fun x hx=>?_,fun x hx=>?_⟩
  ·rw[List.map_append,List.nodup_append];refine⟨h.keys,by simp,fun a ha b hb=>?_⟩;simp only[List.map_cons,List.map_nil,List.mem_singleton]at hb;subst hb;obtain⟨x,hx,rfl⟩:=List.mem_map.1 ha;exact fun e=>q (List.any_eq_true.2 ⟨x,hx,by simpa using e⟩)
  ·rw[List.map_append,List.nodup_append];refine⟨h.born,by simp,fun a ha b hb=>?_⟩;simp only[List.map_cons,List.map_nil,List.mem_singleton]at hb;subst hb;obtain⟨x,hx,rfl⟩:=List.mem_map.1 ha;have:=h.lt x hx;omega
  ·rcases List.mem_append.1 hx with hx|hx
   · have:=h.lt x hx;omega
   · simp only[List.mem_singleton]at hx;subst hx;exact Nat.lt_succ_self c
  ·rcases List.mem_append.1 hx with hx|hx
   · exact h.inn x hx
   · simp only[List.mem_singleton]at hx;subst hx;exact hk
theorem Pok.set{kv:Kp}{c:Nat}(h:Pok kv c)(k:Int × Int)(v:Int):Pok (pset kv k v) c:=by
 have h1:(pset kv k v).map (·.1)=kv.map (·.1):=by
  unfold pset;rw[List.map_map];apply List.map_congr_left;intro x _;show(if x.1=k then(k,v,x.2.2)else x).1=x.1;split
  · rename_i e;exact e.symm
  · rfl
 have h2:(pset kv k v).map (·.2.2)=kv.map (·.2.2):=by
  unfold pset;rw[List.map_map];apply List.map_congr_left;intro x _;show(if x.1=k then(k,v,x.2.2)else x).2.2=x.2.2;split<;>rfl
 refine⟨by rw[h1];exact h.keys,by rw[h2];exact h.born,fun x hx=>?_,fun x hx=>?_⟩
 ·have:x.2.2∈kv.map (·.2.2):=by rw[←h2];exact List.mem_map.2 ⟨x,hx,rfl⟩
  obtain⟨y,hy,e⟩:=List.mem_map.1 this;have:=h.lt y hy;omega
 ·have:x.1∈kv.map (·.1):=by rw[←h1];exact List.mem_map.2 ⟨x,hx,rfl⟩
  obtain⟨y,hy,e⟩:=List.mem_map.1 this;rw[←e];exact h.inn y hy
/-- The entry that was made is there, with its birth. -/
theorem pins_born(kv:Kp)(c:Nat)(k:Int × Int): ∃x∈pins kv c k,x.1=k∧x.2.2=pborn kv c k:=by
 unfold pins pborn
 by_cases q:phas kv k=true
 ·rw[if_pos q];cases hf:kv.find? (fun x=>decide (x.1=k))with
  |none=>
   obtain⟨x,hx,he⟩:=List.any_eq_true.1 q;rw[List.find?_eq_none]at hf;exact absurd he (hf x hx)
  |some x=>exact⟨x,List.mem_of_find?_eq_some hf,by simpa using List.find?_some hf,rfl⟩
 ·rw[if_neg q,pfind_none (by simpa using q)];exact⟨(k,0,c),by simp,rfl,rfl⟩
theorem pget_put(kv:Kp)(c:Nat)(k q:Int × Int)(v:Int):pget (pset (pins kv c k) k v) q=if q=k then v else pget kv q:=by
 have h1: ∀(l:Kp),(∃x∈l,x.1=k)→pget (pset l k v) q=if q=k then v else pget l q:=by
  intro l;induction l with
  |nil=>intro⟨x,hx,_⟩;cases hx
  |cons x l ih=>
   intro hx;unfold pget pset;rw[List.map_cons]
   by_cases e:x.1=k
   ·rw[if_pos e]
    by_cases e2:q=k
    ·rw[if_pos e2];subst e2;simp
    ·rw[if_neg e2];have n1: ¬k=q:=fun h=>e2 h.symm
     have n2: ¬x.1=q:=fun h=>e2 (h.symm.trans e)
     simp only[List.find?_cons,decide_eq_false n1,decide_eq_false n2]
     by_cases hl: ∃x∈l,x.1=k
     ·have:=ih hl;rw[if_neg e2]at this;exact this
     ·have:l.map (fun x=>if x.1=k then(k,v,x.2.2)else x)=l:=by
       rw[List.map_congr_left (g:=fun x=>x) (fun y hy=>if_neg fun h=>hl ⟨y,hy,h⟩),List.map_id']
      rw[this]
   ·rw[if_neg e];obtain⟨y,hy,hyk⟩:=hx
    have hl: ∃x∈l,x.1=k:=by
     rcases List.mem_cons.1 hy with rfl|hy
     ·exact absurd hyk e
     ·exact⟨y,hy,hyk⟩
    by_cases e2:x.1=q
    ·simp only[List.find?_cons,decide_eq_true e2];rw[if_neg fun h=>e (e2.trans h)]
    ·simp only[List.find?_cons,decide_eq_false e2];exact ih hl
 have h2: ∃x∈pins kv c k,x.1=k:=by obtain⟨x,hx,e,_⟩:=pins_born kv c k;exact⟨x,hx,e⟩
 rw[h1 _ h2]
 by_cases e:q=k
 ·rw[if_pos e,if_pos e]
 ·rw[if_neg e,if_neg e];unfold pins;split
  ·rfl
  ·unfold pget;rw[List.find?_append];cases kv.find? (fun x=>decide (x.1=q))with
   |some x=>rfl
   |none=>simp[Ne.symm e]
theorem pget_ins(kv:Kp)(c:Nat)(k:Int × Int):pget (pins kv c k) k=pget kv k:=by
 unfold pins;split
 ·rfl
 ·rename_i h
  unfold pget;rw[List.find?_append,pfind_none (by simpa using h)];simp
theorem ev_plookupI [Env]{P:Program}{n:Nat}{l:List (Nat × Value)}{L:List Seg}{d:Option Tmp}{ty:TypeId}{pos:String}{af:Array Edge}{g:Option (Nat × Bool)}{T K E:TypeId}{x y:Operand}{b c:Nat}{kv:Kp}{k:Int × Int}(hx:ev l x=some (.map (some b)))(hy:ev l y=some (pairV k))(hu:P.underlying T=some (.map K E))(hT:PairT P K)
  (hz: ∀w,(zeroValue E).run P w= .ok (.int .i64 0) w) (hi:In L (so b (.map (entsp (pins kv c k)) (pclk kv c k)))) (hq:Pok kv c) (hk:pIn k):
  Ev P n ⟨d,.lookup T x y false,ty,pos,af,g⟩ l L (.int .i64 (pget kv k)):=by
 have:=ev_plookup (P:=P) (n:=n) (d:=d) (ty:=ty) (pos:=pos) (af:=af) (g:=g) hx hy hu hT hz hi (hq.ins hk) hk;rw[pget_ins]at this;exact this
end Go.Sl