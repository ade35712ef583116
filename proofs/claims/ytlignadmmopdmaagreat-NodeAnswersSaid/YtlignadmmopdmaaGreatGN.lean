/- A part of the proof. -/
import Derived.Test.YtlignadmmopdmaaGreatGM
import Derived.Test.YtlignadmmopdmaaGreatGB
set_option linter.unusedVariables false
set_option linter.unusedSimpArgs false
set_option linter.constructorNameAsVariable false
namespace Go.Sl
abbrev Am(α:Type):=List (Int × α × Nat)
section
variable {α : Type}
def akv(f:α→Value)(m:Am α):Kv:=m.map fun x=>(x.1,f x.2.1,x.2.2)
def aget(m:Am α)(k:Int):Option α:=(m.find? (fun x=>decide (x.1=k))).map (·.2.1)
def ahas(m:Am α)(k:Int):Bool:=m.any fun x=>decide (x.1=k)
def aset(m:Am α)(k:Int)(v:α):Am α:=m.map fun x=>if x.1=k then(k,v,x.2.2)else x
def aput(m:Am α)(c:Nat)(k:Int)(v:α):Am α:=if ahas m k then aset m k v else m++[(k,v,c)]
def aclk(m:Am α)(c:Nat)(k:Int):Nat:=if ahas m k then c else c+1
def adel(m:Am α)(k:Int):Am α:=m.eraseP fun x=>decide (x.1=k)
structure aok(m:Am α)(c:Nat):Prop where
 uniq:(m.map (·.1)).Nodup
 born: ∀x∈m,x.2.2<c
 once:(m.map (·.2.2)).Nodup
theorem akv_any(f:α→Value)(m:Am α)(k:Int):(akv f m).any (fun x=>decide (x.1=k))=ahas m k:=by simp[akv,ahas,List.any_map,Function.comp_def]
theorem akv_put(f:α→Value)(m:Am α)(c:Nat)(k:Int)(v:α):mput (akv f m) c k (f v)=akv f (aput m c k v):=by
 unfold mput aput;rw[akv_any];split
 ·simp only[mset,akv,aset,List.map_map];apply List.map_congr_left;intro x _;simp only[Function.comp];split<;>simp_all
 ·simp[akv]
theorem akv_clk(f:α→Value)(m:Am α)(c:Nat)(k:Int):mclk (akv f m) c k=aclk m c k:=by unfold mclk aclk;rw[akv_any]
theorem akv_get(f:α→Value)(m:Am α)(k:Int):mget (akv f m) k=(aget m k).map f:=by
 unfold mget aget akv;rw[List.find?_map];simp only[Function.comp_def,Option.map_map]
theorem akv_del(f:α→Value)(m:Am α)(k:Int):mdel (akv f m) k=akv f (adel m k):=by
 unfold mdel adel akv;rw[List.eraseP_map];rfl
theorem akv_uniq(f:α→Value){m:Am α}{c:Nat}(h:aok m c):uniq (akv f m):=by
 unfold uniq akv;simpa[List.map_map,Function.comp_def]using h.uniq
theorem akv_stamped(f:α→Value){m:Am α}{c:Nat}(h:aok m c):stamped (akv f m) c:=by
 refine⟨fun x hx=>?_,?_⟩
 · obtain⟨y,hy,rfl⟩:=List.mem_map.1 hx;exact h.born y hy
 · unfold akv;simpa[List.map_map,Function.comp_def]using h.once
theorem aok_nil:aok ([]:Am α) 0:=⟨by simp,(fun x h=>by cases h),by simp⟩
theorem ahas_iff{m:Am α}{k:Int}:ahas m k=true↔ ∃x∈m,x.1=k:=by simp[ahas]
theorem aget_some{m:Am α}{k:Int}{v:α}(h:aget m k=some v): ∃b,(k,v,b)∈m:=by
 unfold aget at h;obtain⟨x,hx,rfl⟩:=Option.map_eq_some_iff.1 h;have h1:=List.find?_some hx;have h2:=List.mem_of_find?_eq_some hx;simp only[decide_eq_true_eq]at h1;subst h1;exact⟨_,h2⟩
theorem ahas_get{m:Am α}{k:Int}:ahas m k=(aget m k).isSome:=by
 unfold ahas aget;rw[Option.isSome_map,Bool.eq_iff_iff,List.find?_isSome,List.any_eq_true]
theorem aget_aput(m:Am α)(c:Nat)(k:Int)(v:α)(j:Int):aget (aput m c k v) j=if j=k then some v else aget m j:=by
 unfold aput;cases hh:ahas m k with
 |true=>
  rw[if_pos rfl];unfold aget aset;rw[List.find?_map]
  by_cases e:j=k
  ·subst e;rw[if_pos rfl];obtain⟨x,hx,hxk⟩:=ahas_iff.1 hh
   have:(m.find? ((fun x:Int × α × Nat=>decide (x.1=j))∘fun x=>if x.1=j then(j,v,x.2.2)else x)).isSome=true:=by
    rw[List.find?_isSome];exact⟨x,hx,by simp[hxk]⟩
   obtain⟨y,hy⟩:=Option.isSome_iff_exists.1 this;have h1:=List.find?_some hy;rw[hy];simp only[Function.comp]at h1;simp only[Option.map_some];split at h1
   ·rename_i h2;rw[if_pos h2]
   ·rename_i h2;simp only[decide_eq_true_eq]at h1;exact absurd h1 h2
  ·rw[if_neg e]
   have:((fun x:Int × α × Nat=>decide (x.1=j))∘fun x=>if x.1=k then(k,v,x.2.2)else x)=fun x:Int × α × Nat=>decide (x.1=j):=by
    funext x
    simp only[Function.comp];split
    · rename_i h;rw[h]
    · rfl
   rw[this];cases hf:m.find? (fun x=>decide (x.1=j))with
   |none=>rfl
   |some x=>
    have h1:=List.find?_some hf;simp only[decide_eq_true_eq]at h1;simp only[Option.map_some];rw[if_neg (by rw[h1];exact e)]
 |false=>
  rw[if_neg (by simp)];unfold aget;rw[List.find?_append]
  by_cases e:j=k
  ·subst e;rw[if_pos rfl]
   have:m.find? (fun x=>decide (x.1=j))=none:=by
    rw[List.find?_eq_none];intro x hx;unfold ahas at hh;rw[List.any_eq_false]at hh;exact hh x hx
   rw[this];simp
  ·rw[if_neg e];simp[show¬k=j from fun q=>e q.symm]
theorem aget_adel{m:Am α}{c:Nat}(h:aok m c)(k j:Int):aget (adel m k) j=if j=k then none else aget m j:=by
 have hu:=h.uniq;clear h;unfold aget adel
 induction m with
 |nil=>simp
 |cons y m ih=>
  simp only[List.map_cons,List.nodup_cons]at hu
  by_cases e:y.1=k
  ·rw[List.eraseP_cons_of_pos (by simpa using e)]
   by_cases ej:j=k
   ·rw[if_pos ej]
    have:m.find? (fun x=>decide (x.1=j))=none:=by
     rw[List.find?_eq_none];intro x hx hc;simp only[decide_eq_true_eq]at hc;exact hu.1 (List.mem_map.2 ⟨x,hx,by rw[hc,ej,e]⟩)
    rw[this];rfl
   ·rw[if_neg ej,List.find?_cons_of_neg (by simp;omega)]
  ·rw[List.eraseP_cons_of_neg (by simpa using e)]
   by_cases ey:y.1=j
   ·rw[List.find?_cons_of_pos (by simpa using ey),if_neg (by omega),List.find?_cons_of_pos (by simpa using ey)]
   ·rw[List.find?_cons_of_neg (by simpa using ey),ih hu.2,List.find?_cons_of_neg (by simpa using ey)]
theorem aset_keys(m:Am α)(k:Int)(v:α):(aset m k v).map (·.1)=m.map (·.1):=by
 unfold aset;rw[List.map_map];apply List.map_congr_left;intro x _;simp only[Function.comp];split<;>simp_all
theorem aset_borns(m:Am α)(k:Int)(v:α):(aset m k v).map (·.2.2)=m.map (·.2.2):=by
 unfold aset;rw[List.map_map];apply List.map_congr_left;intro x _;simp only[Function.comp];split<;>simp_all
theorem aok.put{m:Am α}{c:Nat}(h:aok m c)(k:Int)(v:α):aok (aput m c k v) (aclk m c k):=by
 unfold aput aclk;cases hh:ahas m k with
 |true=>
  rw[if_pos rfl,if_pos rfl];refine⟨by rw[aset_keys];exact h.uniq,fun x hx=>?_,by rw[aset_borns];exact h.once⟩;have h1:x.2.2∈(aset m k v).map (·.2.2):=List.mem_map.2 ⟨x,hx,rfl⟩;rw[aset_borns]at h1;obtain⟨y,hy,e⟩:=List.mem_map.1 h1;have e:y.2.2=x.2.2:=e;rw[←e];exact h.born y hy
 |false=>
  rw[if_neg (by simp),if_neg (by simp)];have hn: ∀x∈m,¬x.1=k:=fun x hx e=>by rw[ahas_iff.2 ⟨x,hx,e⟩]at hh;cases hh
  refine⟨?_,fun x hx=>?_,?_⟩
  ·rw[List.map_append,List.nodup_append];refine⟨h.uniq,by simp,?_⟩;intro a ha b hb;simp only[List.map_cons,List.map_nil,List.mem_singleton]at hb;subst hb;obtain⟨x,hx,rfl⟩:=List.mem_map.1 ha;exact hn x hx
  ·rcases List.mem_append.1 hx with hx|hx
   · have:=h.born x hx;omega
   · simp only[List.mem_singleton]at hx;subst hx;dsimp only;omega
  ·rw[List.map_append,List.nodup_append];refine⟨h.once,by simp,?_⟩;intro a ha b hb;simp only[List.map_cons,List.map_nil,List.mem_singleton]at hb;subst hb;obtain⟨x,hx,rfl⟩:=List.mem_map.1 ha;have:=h.born x hx;show¬x.2.2=_;omega
theorem aok.del{m:Am α}{c:Nat}(h:aok m c)(k:Int):aok (adel m k) c:=by
 have hs:(adel m k).Sublist m:=List.eraseP_sublist;exact⟨(hs.map _).nodup h.uniq,fun x hx=>h.born x (hs.subset hx),(hs.map _).nodup h.once⟩
end
structure T4 where
 a:Int
 b:Int
 c:Int
 d:Int
 deriving DecidableEq
def T4.l(t:T4):List Int:=[t.a,t.b,t.c,t.d]
def T4.get(t:T4)(i:Int):Int:=if i=0 then t.a else if i=1 then t.b else if i=2 then t.c else t.d
def T4.set(t:T4)(i:Int)(v:Int):T4:=if i=0 then{t with a:=v}else if i=1 then{t with b:=v}else if i=2 then{t with c:=v}else{t with d:=v}
structure KeptM where
 e:Int
 s:Int
 t:T4
 deriving DecidableEq
def KeptM.nums(k:KeptM):List Int:=[k.e,k.s,k.t.a,k.t.b,k.t.c,k.t.d]
structure EntM where
 blk:Int
 ve:Int
 vs:Int
 data:Bytes
 dirty:Bool
 cl:Int
 n:Int
 deriving DecidableEq
def EntM.cells(x:EntM):List Value:=[iV x.blk,iV x.ve,iV x.vs,sV x.data,.bool x.dirty,iV x.cl,iV x.n]
def EntM.zero:EntM:=⟨0,0,0,[],false,0,0⟩
inductive WhatM where
 |put (x:EntM)
 |clean (b e s:Int)
 |drop (b:Int)
 |note
structure CrecM where
 w:WhatM
 k:KeptM
def dirtyN(b:Bool):Int:=if b=true then 1 else 0
def WhatM.kind:WhatM→Int
 | .put _=>10
 | .clean _ _ _=>11
 | .drop _=>12
 | .note=>13
def WhatM.nums:WhatM→List Int
 | .put x=>[x.blk,x.ve,x.vs,dirtyN x.dirty,x.cl,x.n]
 | .clean b e s=>[b,e,s]
 | .drop b=>[b]
 | .note=>[]
def WhatM.texts:WhatM→List Bytes
 | .put x=>[x.data]
 |_=>[]
def CrecM.rc(r:CrecM):RecM:=⟨r.w.kind,r.w.nums++r.k.nums,r.w.texts⟩
def oddN(n:Int):Bool:= !(within3 n 0 4611686018427387904)
def mayV(e s least:Int):Bool:=within3 e least 4611686018427387904&&within3 s least 4611686018427387904
def inB(n:Nat)(b:Int):Bool:=within3 b 0 (n- 1)
/-- What a record says, of its numbers. -/
def whatC(n:Nat)(kind:Int)(texts:List Bytes)(ns:List Int):Option WhatM:=
 if kind=10∧ns.length=6∧texts.length=1 then
  if inB n (ns.getD 0 0)=true∧mayV (ns.getD 1 0) (ns.getD 2 0) 1=true∧within3 (ns.getD 3 0) 0 1=true∧within3 (ns.getD 4 0) (-1) 3=true∧oddN (ns.getD 5 0)=false∧(texts.getD 0 []).length=8 then
   some (.put ⟨ns.getD 0 0,ns.getD 1 0,ns.getD 2 0,texts.getD 0 [],decide (ns.getD 3 0=1),ns.getD 4 0,ns.getD 5 0⟩)else none
 else if kind=11∧ns.length=3∧texts.length=0 then
  if inB n (ns.getD 0 0)=true∧mayV (ns.getD 1 0) (ns.getD 2 0) 1=true then some (.clean (ns.getD 0 0) (ns.getD 1 0) (ns.getD 2 0))else none
 else if kind=12∧ns.length=1∧texts.length=0∧inB n (ns.getD 0 0)=true then some (.drop (ns.getD 0 0))
 else if kind=13∧ns.length=0∧texts.length=0 then some .note else none
def keptC(ns:List Int):KeptM:=⟨ns.getD 0 0,ns.getD 1 0,ns.getD 2 0,ns.getD 3 0,ns.getD 4 0,ns.getD 5 0⟩
def badC(s:Bytes):Bool:= !decide ((decM s).2=0)||decide (((decM s).1.nums.length:Int)- 6<0)||((decM s).1.nums.drop ((decM s).1.nums.length- 6)).any oddN
def readC(n:Nat)(s:Bytes):Option CrecM:=
 if badC s=true then none else
 match whatC n (decM s).1.kind (decM s).1.texts ((decM s).1.nums.take ((decM s).1.nums.length- 6))with
 |none=>none
 |some w=>some ⟨w,keptC ((decM s).1.nums.drop ((decM s).1.nums.length- 6))⟩
def N62(n:Int):Prop:=0≤n∧n≤4611686018427387904
structure KeptM.ok(k:KeptM):Prop where
 e:N62 k.e
 s:N62 k.s
 a:N62 k.t.a
 b:N62 k.t.b
 c:N62 k.t.c
 d:N62 k.t.d
structure EntM.ok(n:Nat)(x:EntM):Prop where
 blk:0≤x.blk∧x.blk<n
 ve:1≤x.ve∧x.ve≤4611686018427387904
 vs:1≤x.vs∧x.vs≤4611686018427387904
 data:x.data.length=8
 cl: -1≤x.cl∧x.cl≤3
 n:N62 x.n
def WhatM.ok(n:Nat):WhatM→Prop
 | .put x=>x.ok n
 | .clean b e s=>(0≤b∧b<n)∧(1≤e∧e≤4611686018427387904)∧(1≤s∧s≤4611686018427387904)
 | .drop b=>0≤b∧b<n
 | .note=>True
structure CrecM.ok(n:Nat)(r:CrecM):Prop where
 w:r.w.ok n
 k:r.k.ok
theorem oddN_no{n:Int}(h:oddN n=false):N62 n:=by
 unfold oddN within3 at h;simp only[Bool.not_eq_false',Bool.and_eq_true,decide_eq_true_eq]at h;exact h
theorem CrecM.ok.may{n:Nat}(hn:n≤32){r:CrecM}(h:r.ok n):r.rc.may:=by
 obtain⟨w,k⟩:=r;obtain⟨hw,hk⟩:=h
 have hkn: ∀m∈k.nums,-9223372036854775808≤m∧m≤9223372036854775807:=by
  intro m hm;obtain⟨⟨a1,a2⟩,⟨b1,b2⟩,⟨c1,c2⟩,⟨d1,d2⟩,⟨e1,e2⟩,⟨f1,f2⟩⟩:=hk;simp only[KeptM.nums,List.mem_cons,List.not_mem_nil,or_false]at hm;rcases hm with rfl|rfl|rfl|rfl|rfl|rfl<;>dsimp only at* <;>omega
 have hwn: ∀m∈w.nums,-9223372036854775808≤m∧m≤9223372036854775807:=by
  intro m hm;cases w with
  |put x=>
   obtain⟨h1,h2,h3,h4,h5,h6⟩:=hw;obtain⟨h6,h7⟩:=h6;have hd:dirtyN x.dirty=0∨dirtyN x.dirty=1:=by unfold dirtyN;split<;>simp
   simp only[WhatM.nums,List.mem_cons,List.not_mem_nil,or_false]at hm;rcases hm with rfl|rfl|rfl|rfl|rfl|rfl<;>omega
  |clean b e s=>
   obtain⟨h1,h2,h3⟩:=hw;simp only[WhatM.nums,List.mem_cons,List.not_mem_nil,or_false]at hm;rcases hm with rfl|rfl|rfl<;>omega
  |drop b=>
   simp only[WhatM.nums,List.mem_cons,List.not_mem_nil,or_false]at hm;subst hm;have h1:0≤m∧m<n:=hw;omega
  |note=>cases hm
 refine⟨?_,?_,?_,?_,?_,fun m hm=>?_⟩
 ·cases w<;>simp[CrecM.rc,WhatM.kind]
 ·cases w<;>simp[CrecM.rc,WhatM.kind]
 ·cases w<;>simp[CrecM.rc,WhatM.nums,KeptM.nums]
 ·cases w<;>simp[CrecM.rc,WhatM.texts]
 ·intro t ht;cases w with
  |put x=>
   have:=hw.data;simp only[CrecM.rc,WhatM.texts,List.mem_singleton]at ht;subst ht;omega
  |_=>simp[CrecM.rc,WhatM.texts]at ht
 ·rcases List.mem_append.1 hm with hm|hm
  ·exact hwn m hm
  ·exact hkn m hm
end Go.Sl
namespace Go.Sl
structure CaM where
 l:LogM
 bl:Nat
 n:Nat
 en:Am EntM
 ce:Nat
 pu:Am Int
 cp:Nat
 k:KeptM
def CaM.eff(C:CaM)(w:WhatM)(num:Int):CaM:=match w with
 | .put x=>{C with en:=aput C.en C.ce x.blk x,ce:=aclk C.en C.ce x.blk,pu:=aput C.pu C.cp x.blk num,cp:=aclk C.pu C.cp x.blk}
 | .clean b e s=>match aget C.en b with
  |some y=>if y.ve=e∧y.vs=s then{C with en:=aput C.en C.ce b {y with dirty:=false},ce:=aclk C.en C.ce b}else C
  |none=>C
 | .drop b=>{C with en:=adel C.en b,pu:=adel C.pu b}
 | .note=>C
def CaM.does(C:CaM)(r:CrecM)(num:Int):CaM:={C.eff r.w num with k:=r.k}
structure CaM.mok(C:CaM):Prop where
 e:aok C.en C.ce
 p:aok C.pu C.cp
theorem CaM.mok.does{C:CaM}(h:C.mok)(r:CrecM)(num:Int):(C.does r num).mok:=by
 obtain⟨w,k⟩:=r;unfold CaM.does CaM.eff;cases w with
 |put x=>exact⟨h.e.put _ _,h.p.put _ _⟩
 |clean b e s=>
  dsimp only;split
  ·split
   · exact⟨h.e.put _ _,h.p⟩
   · exact⟨h.e,h.p⟩
  ·exact⟨h.e,h.p⟩
 |drop b=>exact⟨h.e.del _,h.p.del _⟩
 |note=>exact⟨h.e,h.p⟩
theorem CaM.does_l(C:CaM)(r:CrecM)(num:Int):(C.does r num).l=C.l∧(C.does r num).bl=C.bl∧(C.does r num).n=C.n:=by
 obtain⟨w,k⟩:=r;unfold CaM.does CaM.eff;cases w with
 |clean b e s=>
  dsimp only;split
  · split<;>exact⟨rfl,rfl,rfl⟩
  · exact⟨rfl,rfl,rfl⟩
 |_=>exact⟨rfl,rfl,rfl⟩
theorem numsD_len: ∀(n:Nat) (b:Bytes) (q:List Int × Bytes),numsD n b=some q→q.1.length=n
 |0,_,q,h=>by simp only[numsD,Option.some.injEq]at h;subst h;rfl
 |n+1,b,q,h=>by
  unfold numsD at h;split at h
  ·cases h
  ·split at h
   ·cases h
   ·rename_i q2 h2
    have:=numsD_len n _ _ h2;simp only[Option.some.injEq]at h;subst h;simp only[List.length_cons];omega
theorem decM_len(bs:Bytes):(decM bs).1.nums.length≤16:=by
 unfold decM;cases h:recD bs with
 |none=>simp
 |some r=>
  dsimp only
  match bs,h with
  |k::hh::b,h=>
   unfold recD at h;dsimp only at h;split at h
   ·cases h
   ·split at h
    ·cases h
    ·rename_i q hq
     have h1:=numsD_len _ _ _ hq;split at h
     ·cases h
     ·split at h
      ·simp only[Option.some.injEq]at h;subst h;dsimp only;rw[h1];unfold headN;split<;>omega
      ·cases h
def aboveV(e s e' s':Int):Bool:=decide (e'<e)||(decide (e=e')&&decide (s'<s))
def allTo(C:CaM)(k:Nat):List EntM:=(List.range k).filterMap fun i=>aget C.en (i:Nat)
def CaM.all(C:CaM):List EntM:=allTo C C.bl
theorem allTo_succ(C:CaM)(k:Nat):allTo C (k+1)=match aget C.en (k:Nat)with|some x=>allTo C k++[x]|none=>allTo C k:=by
 unfold allTo;rw[List.range_succ,List.filterMap_append];cases h:aget C.en (k:Nat)<;>simp[h]
theorem allTo_len(C:CaM)(k:Nat):(allTo C k).length≤k:=by
 unfold allTo;exact Nat.le_trans (List.length_filterMap_le _ _) (by simp)
def CaM.add(C:CaM)(D:Dev)(r:CrecM):Int × CaM × Dev:=
 ((C.l.append D (recB r.rc)).1,
  if(C.l.append D (recB r.rc)).1=0 then CaM.does {C with l:=(C.l.append D (recB r.rc)).2.1} r C.l.tail else{C with l:=(C.l.append D (recB r.rc)).2.1},
  (C.l.append D (recB r.rc)).2.2)
def CaM.needed(C:CaM):Option EntM:=(C.pu.find? fun x=>decide (x.2.1=C.l.head)).map fun x=>(aget C.en x.1).getD .zero
def CaM.free(C:CaM):Int:=(C.l.n:Int)-C.l.l.length
def CaM.again(C:CaM)(D:Dev):Int × CaM × Dev:=match C.needed with
 |some x=>C.add D ⟨.put x,C.k⟩
 |none=>(0,C,D)
def CaM.cut(C:CaM)(D:Dev)(m:Int):Int × CaM × Dev:=((C.l.trim D m).1,{C with l:=(C.l.trim D m).2.1},(C.l.trim D m).2.2)
def CaM.mkF:Nat→CaM→Dev→Int × CaM × Dev
 |0,C,D=>(if C.free<4 then 12 else 0,C,D)
 |f+1,C,D=>if 4≤C.free then(0,C,D)else
  if(C.again D).1≠0 then C.again D else
  if((C.again D).2.1.cut (C.again D).2.2 (C.l.head+1)).1≠0 then(C.again D).2.1.cut (C.again D).2.2 (C.l.head+1)else
  CaM.mkF f ((C.again D).2.1.cut (C.again D).2.2 (C.l.head+1)).2.1 ((C.again D).2.1.cut (C.again D).2.2 (C.l.head+1)).2.2
def CaM.make(C:CaM)(D:Dev):Int × CaM × Dev:=CaM.mkF C.n C D
def CaM.come(C:CaM)(D:Dev)(r:CrecM):Int × CaM × Dev:=if(C.make D).1≠0 then C.make D else(C.make D).2.1.add (C.make D).2.2 r
def spareS(C:CaM)(s:Int × Bool)(x:EntM):Int × Bool:=
 if(!x.dirty&&(!s.2||aboveV ((aget C.en s.1).getD .zero).ve ((aget C.en s.1).getD .zero).vs x.ve x.vs))=true then(x.blk,true)else s
def CaM.spare(C:CaM):Int × Bool:=C.all.foldl (spareS C) (0,false)
def putK(k:KeptM)(x:EntM):KeptM:=⟨x.ve,x.vs,if 0≤x.cl then k.t.set x.cl (max (k.t.get x.cl) x.n)else k.t⟩
def badPut(C:CaM)(x:EntM):Bool:= !(aboveV x.ve x.vs C.k.e C.k.s)|| !(mayV x.ve x.vs 1)|| !(within3 x.cl (-1) 3)||oddN x.n
def CaM.put(C:CaM)(D:Dev)(x:EntM):Int × CaM × Dev:=
 if inB C.bl x.blk=false then(2,C,D)else if¬(x.data.length:Int)=8 then(3,C,D)else if badPut C x=true then(1,C,D)else
 if(aget C.en x.blk).isSome=true∨(C.en.length:Int)<(C.n:Int)- 6 then C.come D ⟨.put x,putK C.k x⟩else
 if C.spare.2=false then(12,C,D)else
 if(C.come D ⟨.drop C.spare.1,C.k⟩).1≠0 then C.come D ⟨.drop C.spare.1,C.k⟩else
 (C.come D ⟨.drop C.spare.1,C.k⟩).2.1.add (C.come D ⟨.drop C.spare.1,C.k⟩).2.2 ⟨.put x,putK C.k x⟩
def CaM.clean(C:CaM)(D:Dev)(b e s:Int):Int × CaM × Dev:=match aget C.en b with
 |none=>(10,C,D)
 |some y=>if¬(y.ve=e∧y.vs=s)then(10,C,D)else if y.dirty=false then(0,C,D)else C.come D ⟨.clean b e s,C.k⟩
def CaM.drop(C:CaM)(D:Dev)(b:Int):Int × CaM × Dev:=if(aget C.en b).isSome=true then C.come D ⟨.drop b,C.k⟩else(10,C,D)
def wrongV(e s:Int)(ns:List Int):Bool:= !mayV e s 0||decide (ns.length≠4)||ns.any oddN
def t4Of(ns:List Int):T4:=⟨ns.getD 0 0,ns.getD 1 0,ns.getD 2 0,ns.getD 3 0⟩
def CaM.reset(C:CaM)(D:Dev)(e s:Int)(ns:List Int):Int × CaM × Dev:=if wrongV e s ns=true then(1,C,D)else C.come D ⟨.note,⟨e,s,t4Of ns⟩⟩
def T4.max(t u:T4):T4:=⟨Max.max t.a u.a,Max.max t.b u.b,Max.max t.c u.c,Max.max t.d u.d⟩
def noteK(k:KeptM)(e s:Int)(t:T4):KeptM:=⟨if aboveV e s k.e k.s=true then e else k.e,if aboveV e s k.e k.s=true then s else k.s,k.t.max t⟩
def CaM.note(C:CaM)(D:Dev)(e s:Int)(ns:List Int):Int × CaM × Dev:=if wrongV e s ns=true then(1,C,D)else C.come D ⟨.note,noteK C.k e s (t4Of ns)⟩
def CaM.sync(C:CaM)(D:Dev):Int × CaM × Dev:=(D.barrier.1,C,D.barrier.2)
structure CaM.ok(C:CaM)(D:Dev):Prop where
 l:C.l.ok D
 bl:1≤C.bl∧C.bl≤32
 n:C.n=C.l.n
 n8:8≤C.n
 m:C.mok
 k:C.k.ok
 en: ∀x∈C.en,x.2.1.ok C.bl∧x.2.1.blk=x.1
 keys: ∀i,ahas C.pu i=ahas C.en i
 pv: ∀x∈C.pu,x.2.1<C.l.tail
 pn:(C.pu.map (·.2.1)).Nodup
theorem CaM.ok.d{C:CaM}{D:Dev}(h:C.ok D):D.ok:=h.l.d
theorem aput_mem{α:Type}{m:Am α}{c:Nat}{k:Int}{v:α}{x:Int × α × Nat}(h:x∈aput m c k v):(x.1=k∧x.2.1=v)∨(x∈m∧ ¬x.1=k):=by
 unfold aput at h;split at h
 ·obtain⟨y,hy,rfl⟩:=List.mem_map.1 h;split
  · exact .inl ⟨rfl,rfl⟩
  · rename_i e;exact .inr ⟨hy,e⟩
 ·rename_i hn
  rcases List.mem_append.1 h with h|h
  · exact .inr ⟨h,fun e=>hn (ahas_iff.2 ⟨x,h,e⟩)⟩
  · simp only[List.mem_singleton]at h;subst h;exact .inl ⟨rfl,rfl⟩
theorem ahas_aput{α:Type}(m:Am α)(c:Nat)(k:Int)(v:α)(i:Int):ahas (aput m c k v) i=(decide (i=k)||ahas m i):=by
 rw[ahas_get,aget_aput,ahas_get]
 by_cases e:i=k<;>simp[e]
theorem ahas_adel{α:Type}{m:Am α}{c:Nat}(h:aok m c)(k i:Int):ahas (adel m k) i=(!decide (i=k)&&ahas m i):=by
 rw[ahas_get,aget_adel h,ahas_get]
 by_cases e:i=k<;>simp[e]
theorem aset_vals{m:Am Int}{k v:Int}(hu:(m.map (·.1)).Nodup)(hn:(m.map (·.2.1)).Nodup)(hv: ∀x∈m,¬x.2.1=v):((aset m k v).map (·.2.1)).Nodup:=by
 unfold aset;rw[List.map_map]
 induction m with
 |nil=>simp
 |cons y m ih=>
  simp only[List.map_cons,List.nodup_cons]at hu hn ⊢;refine⟨fun h=>?_,ih hu.2 hn.2 (fun x hx=>hv x (by simp[hx]))⟩;obtain⟨z,hz,e⟩:=List.mem_map.1 h;simp only[Function.comp]at e
  by_cases ez:z.1=k
  ·rw[if_pos ez]at e
   by_cases ey:y.1=k
   ·exact hu.1 (List.mem_map.2 ⟨z,hz,by rw[ez,ey]⟩)
   ·rw[if_neg ey]at e;exact hv y (by simp) e.symm
  ·rw[if_neg ez]at e
   by_cases ey:y.1=k
   ·rw[if_pos ey]at e;exact hv z (by simp[hz]) e
   ·rw[if_neg ey]at e;exact hn.1 (List.mem_map.2 ⟨z,hz,e⟩)
theorem aput_vals{m:Am Int}{c:Nat}{k v:Int}(h:aok m c)(hn:(m.map (·.2.1)).Nodup)(hv: ∀x∈m,¬x.2.1=v):((aput m c k v).map (·.2.1)).Nodup:=by
 unfold aput;split
 ·exact aset_vals h.uniq hn hv
 ·rw[List.map_append,List.nodup_append];refine⟨hn,by simp,?_⟩;intro a ha b hb;simp only[List.map_cons,List.map_nil,List.mem_singleton]at hb;subst hb;obtain⟨x,hx,rfl⟩:=List.mem_map.1 ha;exact hv x hx
/-- Behind what a record does. -/
theorem CaM.ok.does{C:CaM}{D:Dev}(h:C.ok D){r:CrecM}(hr:r.ok C.bl){L:LogM}{D':Dev}(hL:L.ok D')(hn:L.n=C.l.n){num:Int}(h1: ∀x∈C.pu,x.2.1<num)(h2:num<L.tail):
  (CaM.does {C with l:=L} r num).ok D':=by
 obtain⟨w,k⟩:=r;have hm:=CaM.mok.does (C:={C with l:=L}) ⟨h.m.e,h.m.p⟩ ⟨w,k⟩ num;obtain⟨e1,e2,e3⟩:=CaM.does_l {C with l:=L} ⟨w,k⟩ num;have hpv: ∀x∈C.pu,x.2.1<L.tail:=fun x hx=>by have:=h1 x hx;omega
 refine⟨by rw[e1];exact hL,by rw[e2];exact h.bl,by rw[e3,e1];exact h.n.trans hn.symm,by rw[e3];exact h.n8,hm,hr.k,?_,?_,?_,?_⟩
 all_goals try rw[e2]
 ·cases w with
  |put x=>
   intro y hy;rcases aput_mem hy with⟨q1,q2⟩|⟨q1,_⟩
   ·rw[q1,q2];exact⟨hr.w,rfl⟩
   ·exact h.en y q1
  |clean b e s=>
   intro y hy;unfold CaM.does CaM.eff at hy;dsimp only at hy;split at hy
   ·rename_i z hz
    obtain⟨bz,hbz⟩:=aget_some hz;have hzo:=h.en _ hbz;split at hy
    ·rcases aput_mem hy with⟨q1,q2⟩|⟨q1,_⟩
     · rw[q1,q2];exact⟨⟨hzo.1.blk,hzo.1.ve,hzo.1.vs,hzo.1.data,hzo.1.cl,hzo.1.n⟩,hzo.2⟩
     · exact h.en y q1
    ·exact h.en y hy
   ·exact h.en y hy
  |drop b=>exact fun y hy=>h.en y (List.eraseP_sublist.subset hy)
  |note=>exact h.en
 ·cases w with
  |put x=>
   intro i;show ahas (aput C.pu C.cp x.blk num) i=ahas (aput C.en C.ce x.blk x) i;rw[ahas_aput,ahas_aput,h.keys]
  |clean b e s=>
   intro i;unfold CaM.does CaM.eff;dsimp only;split
   ·rename_i z hz
    split
    ·dsimp only;rw[ahas_aput,h.keys]
     by_cases ei:i=b
     · subst ei;rw[ahas_get,hz];simp
     · simp[ei]
    ·exact h.keys i
   ·exact h.keys i
  |drop b=>
   intro i;show ahas (adel C.pu b) i=ahas (adel C.en b) i;rw[ahas_adel h.m.p,ahas_adel h.m.e,h.keys]
  |note=>exact h.keys
 ·rw[e1];cases w with
  |put x=>
   intro y hy;rcases aput_mem hy with⟨q1,q2⟩|⟨q1,_⟩
   ·rw[q2];exact h2
   ·exact hpv y q1
  |clean b e s=>
   intro y hy;unfold CaM.does CaM.eff at hy;dsimp only at hy;split at hy
   ·split at hy<;>exact hpv y hy
   ·exact hpv y hy
  |drop b=>exact fun y hy=>hpv y (List.eraseP_sublist.subset hy)
  |note=>exact hpv
 ·cases w with
  |put x=>exact aput_vals h.m.p h.pn (fun y hy=>by have:=h1 y hy;omega)
  |clean b e s=>
   unfold CaM.does CaM.eff;dsimp only;split
   ·split<;>exact h.pn
   ·exact h.pn
  |drop b=>exact(List.eraseP_sublist.map _).nodup h.pn
  |note=>exact h.pn
theorem append_n{L:LogM}{D:Dev}{s:Bytes}:(L.append D s).2.1.n=L.n:=by
 unfold LogM.append;split<;>(try rfl);split<;>(try rfl);split<;>(try rfl);dsimp only;split<;>rfl
theorem append_tail{L:LogM}{D:Dev}{s:Bytes}:(L.append D s).2.1.tail=if(L.append D s).1=0 then L.tail+1 else L.tail:=by
 unfold LogM.append;split
 ·simp
 ·split
  ·simp
  ·split
   ·simp
   ·dsimp only;split
    · unfold LogM.tail;simp only[List.length_append,List.length_singleton];omega
    · rfl
theorem trim_n{L:LogM}{D:Dev}{k:Int}:(L.trim D k).2.1.n=L.n:=by
 unfold LogM.trim;split<;>(try rfl);split<;>(try rfl);dsimp only;split<;>rfl
theorem trim_tail{L:LogM}{D:Dev}{k:Int}:(L.trim D k).2.1.tail=L.tail:=by
 unfold LogM.trim;split
 ·rfl
 ·rename_i hw
  have hw2:L.head≤k∧k≤L.tail:=within3_iff.1 (by simpa using hw);split
  ·rfl
  ·dsimp only;split
   ·unfold LogM.tail LogM.cut LogM.put at*;dsimp only;simp only[List.length_drop];omega
   ·rfl
theorem CaM.ok.add{C:CaM}{D:Dev}(h:C.ok D){r:CrecM}(hr:r.ok C.bl):(C.add D r).2.1.ok (C.add D r).2.2:=by
 have ha:=LogM.append_ok h.l (recB r.rc);have ht:=append_tail (L:=C.l) (D:=D) (s:=recB r.rc);unfold CaM.add;dsimp only;split
 ·rename_i h0
  rw[if_pos h0]at ht;exact h.does hr ha append_n h.pv (by omega)
 ·rename_i h0
  rw[if_neg h0]at ht;exact⟨ha,h.bl,h.n.trans append_n.symm,h.n8,⟨h.m.e,h.m.p⟩,h.k,h.en,h.keys,fun x hx=>by rw[ht];exact h.pv x hx,h.pn⟩
theorem CaM.ok.cut{C:CaM}{D:Dev}(h:C.ok D)(m:Int):(C.cut D m).2.1.ok (C.cut D m).2.2:=
 ⟨LogM.trim_ok h.l m,h.bl,h.n.trans trim_n.symm,h.n8,⟨h.m.e,h.m.p⟩,h.k,h.en,h.keys,fun x hx=>by show x.2.1<(C.l.trim D m).2.1.tail;rw[trim_tail];exact h.pv x hx,h.pn⟩
theorem CaM.ok.need{C:CaM}{D:Dev}(h:C.ok D){x:EntM}(hx:C.needed=some x):x.ok C.bl∧aget C.en x.blk=some x:=by
 unfold CaM.needed at hx;obtain⟨y,hy,e⟩:=Option.map_eq_some_iff.1 hx;have hm:=List.mem_of_find?_eq_some hy;have hk:=h.keys y.1;rw[ahas_iff.2 ⟨y,hm,rfl⟩,ahas_get]at hk;obtain⟨z,hz⟩:=Option.isSome_iff_exists.1 hk.symm;rw[hz]at e;simp only[Option.getD_some]at e;subst e;obtain⟨b,hb⟩:=aget_some hz;have:=h.en _ hb;exact⟨this.1,by rw[this.2];exact hz⟩
theorem CaM.add_bl{C:CaM}{D:Dev}{r:CrecM}:(C.add D r).2.1.bl=C.bl∧(C.add D r).2.1.n=C.n:=by
 unfold CaM.add;dsimp only;split
 · exact⟨(CaM.does_l _ _ _).2.1,(CaM.does_l _ _ _).2.2⟩
 · exact⟨rfl,rfl⟩
theorem CaM.again_bl{C:CaM}{D:Dev}:(C.again D).2.1.bl=C.bl∧(C.again D).2.1.n=C.n:=by
 unfold CaM.again;split
 · exact CaM.add_bl
 · exact⟨rfl,rfl⟩
theorem CaM.ok.again{C:CaM}{D:Dev}(h:C.ok D):(C.again D).2.1.ok (C.again D).2.2:=by
 unfold CaM.again;split
 · rename_i x hx;exact h.add ⟨(h.need hx).1,h.k⟩
 · exact h
theorem CaM.mkF_bl: ∀(f:Nat) (C:CaM) (D:Dev),(CaM.mkF f C D).2.1.bl=C.bl∧(CaM.mkF f C D).2.1.n=C.n
 |0,C,D=>⟨rfl,rfl⟩
 |f+1,C,D=>by
  unfold CaM.mkF;split
  ·exact⟨rfl,rfl⟩
  ·split
   ·exact CaM.again_bl
   ·split
    ·exact CaM.again_bl (C:=C) (D:=D)
    ·have:=CaM.mkF_bl f ((C.again D).2.1.cut (C.again D).2.2 (C.l.head+1)).2.1 ((C.again D).2.1.cut (C.again D).2.2 (C.l.head+1)).2.2;exact⟨this.1.trans CaM.again_bl.1,this.2.trans CaM.again_bl.2⟩
theorem CaM.ok.mkF: ∀(f:Nat) {C:CaM} {D:Dev},C.ok D→(CaM.mkF f C D).2.1.ok (CaM.mkF f C D).2.2
 |0,C,D,h=>h
 |f+1,C,D,h=>by
  unfold CaM.mkF;split
  ·exact h
  ·split
   ·exact h.again
   ·split
    · exact h.again.cut _
    · exact CaM.ok.mkF f (h.again.cut _)
theorem CaM.ok.come{C:CaM}{D:Dev}(h:C.ok D){r:CrecM}(hr:r.ok C.bl):(C.come D r).2.1.ok (C.come D r).2.2:=by
 have hm:(C.make D).2.1.ok (C.make D).2.2:=CaM.ok.mkF C.n h;unfold CaM.come;split
 · exact hm
 · exact hm.add (by rw[show(C.make D).2.1.bl=C.bl from(CaM.mkF_bl _ _ _).1];exact hr)
theorem CaM.come_bl{C:CaM}{D:Dev}{r:CrecM}:(C.come D r).2.1.bl=C.bl∧(C.come D r).2.1.n=C.n:=by
 unfold CaM.come;split
 · exact CaM.mkF_bl _ _ _
 · exact⟨CaM.add_bl.1.trans (CaM.mkF_bl _ _ _).1,CaM.add_bl.2.trans (CaM.mkF_bl _ _ _).2⟩
theorem left_akv{α:Type}{f:α→Value}{m:Am α}{seen:List Nat}{x:Int × Value × Nat}(hx:x∈left (akv f m) seen): ∃k v b,x=(k,f v,b)∧(k,v,b)∈m∧ ¬b∈seen:=by
 unfold left at hx;obtain⟨h1,h2⟩:=List.mem_filter.1 hx;obtain⟨y,hy,rfl⟩:=List.mem_map.1 h1;exact⟨y.1,y.2.1,y.2.2,rfl,hy,by simpa using h2⟩
theorem left_none{α:Type}{f:α→Value}{m:Am α}{seen:List Nat}(h:left (akv f m) seen=[]): ∀y∈m,y.2.2∈seen:=by
 intro y hy;unfold left at h;rw[List.filter_eq_nil_iff]at h;have:=h (y.1,f y.2.1,y.2.2) (List.mem_map.2 ⟨y,hy,rfl⟩);simpa using this
theorem once_eq{α:Type}{m:Am α}{c:Nat}(h:aok m c){x y:Int × α × Nat}(hx:x∈m)(hy:y∈m)(e:x.2.2=y.2.2):x=y:=by
 have hn:=h.once;clear h
 induction m with
 |nil=>cases hx
 |cons z m ih=>
  simp only[List.map_cons,List.nodup_cons]at hn;rcases List.mem_cons.1 hx with h1|h1<;>rcases List.mem_cons.1 hy with h2|h2
  · rw[h1,h2]
  · exfalso;subst h1;exact hn.1 (List.mem_map.2 ⟨y,h2,e.symm⟩)
  · exfalso;subst h2;exact hn.1 (List.mem_map.2 ⟨x,h1,e⟩)
  · exact ih h1 h2 hn.2
theorem find_val{m:Am Int}(hn:(m.map (·.2.1)).Nodup){x:Int × Int × Nat}{h:Int}(hx:x∈m)(e:x.2.1=h):m.find? (fun y=>decide (y.2.1=h))=some x:=by
 induction m with
 |nil=>cases hx
 |cons z m ih=>
  simp only[List.map_cons,List.nodup_cons]at hn;rcases List.mem_cons.1 hx with h1|h1
  ·subst h1;rw[List.find?_cons_of_pos (by simpa using e)]
  ·rw[List.find?_cons_of_neg,ih hn.2 h1];simp only[decide_eq_true_eq];intro ez;exact hn.1 (List.mem_map.2 ⟨x,h1,by rw[e,ez]⟩)
theorem needed_some{C:CaM}(hn:(C.pu.map (·.2.1)).Nodup){k v:Int}{b:Nat}(hx:(k,v,b)∈C.pu)(e:v=C.l.head):C.needed=some ((aget C.en k).getD .zero):=by
 unfold CaM.needed;rw[find_val hn hx e];rfl
theorem needed_none{C:CaM}{seen:List Nat}{f:Int→Value}(hs: ∀y∈C.pu,y.2.2∈seen→ ¬y.2.1=C.l.head)(h:left (akv f C.pu) seen=[]):C.needed=none:=by
 unfold CaM.needed;rw[List.find?_eq_none.2]
 ·rfl
 ·intro y hy;simpa using hs y hy (left_none h y hy)
def numC(k:KeptM)(i:Int):Int:=if i<0∨4≤i then 0 else k.t.get i
def entsV(l:List EntM):List Value:=(l.map EntM.cells).flatten
theorem entsV_snoc(l:List EntM)(x:EntM):entsV (l++[x])=entsV l++x.cells:=by simp[entsV]
theorem entsV_get{l:List EntM}{i:Nat}{x:EntM}(h:l[i]? =some x):((entsV l).drop (i*7)).take 7=x.cells:=flat_at (f:=EntM.cells) (k:=7) (fun _=>rfl) l i x h
theorem CaM.ok.lim{C:CaM}{D:Dev}(h:C.ok D):1≤C.l.head∧C.l.tail≤4611686018427388416∧C.l.l.length≤512∧C.l.n≤512∧C.l.l.length≤C.l.n∧C.n≤512∧D.l.length≤512:=by
 have h1:=h.l.first;have h2:=h.l.l;have h3:=h.l.tail;have h4:=h.l.d.n;have h5:=h.l.head;have h6:=h.n;omega
theorem all_mem{C:CaM}{x:EntM}(h:x∈C.all): ∃i:Nat,i<C.bl∧aget C.en i=some x:=by
 unfold CaM.all allTo at h;obtain⟨i,hi,e⟩:=List.mem_filterMap.1 h;exact⟨i,by simpa using hi,e⟩
theorem ok_get{C:CaM}{D:Dev}(h:C.ok D){b:Int}{x:EntM}(e:aget C.en b=some x):x.ok C.bl∧x.blk=b:=by
 obtain⟨c,hc⟩:=aget_some e;exact h.en _ hc
theorem spare_fold{C:CaM}: ∀(l:List EntM) (s:Int × Bool),(l.foldl (spareS C) s=s)∨ ∃x∈l,x.dirty=false∧l.foldl (spareS C) s=(x.blk,true)
 | [],s=> .inl rfl
 |y::l,s=>by
  rw[List.foldl_cons]
  have hs:spareS C s y=s∨(y.dirty=false∧spareS C s y=(y.blk,true)):=by
   unfold spareS;split
   ·rename_i h
    simp only[Bool.and_eq_true,Bool.not_eq_true']at h;exact .inr ⟨h.1,rfl⟩
   ·exact .inl rfl
  rcases spare_fold l (spareS C s y)with h|⟨x,hx,h1,h2⟩
  ·rw[h];rcases hs with h3|⟨h3,h4⟩
   ·exact .inl h3
   ·exact .inr ⟨y,by simp,h3,h4⟩
  ·exact .inr ⟨x,by simp[hx],h1,h2⟩
theorem spare_some{C:CaM}(h:C.spare.2=true): ∃x∈C.all,x.dirty=false∧C.spare=(x.blk,true):=by
 rcases spare_fold C.all (0,false)with h1|h1
 · unfold CaM.spare at h;rw[h1]at h;cases h
 · exact h1
theorem spare_ok{C:CaM}{D:Dev}(h:C.ok D)(hs:C.spare.2=true):0≤C.spare.1∧C.spare.1<C.bl:=by
 obtain⟨x,hx,-,e⟩:=spare_some hs;obtain⟨i,hi,hg⟩:=all_mem hx;rw[e];exact(ok_get h hg).1.blk
theorem bad_no{C:CaM}{x:EntM}(h1:inB C.bl x.blk=true)(h2:(x.data.length:Int)=8)(h3:badPut C x=false):x.ok C.bl∧aboveV x.ve x.vs C.k.e C.k.s=true:=by
 unfold badPut mayV inB at*;simp only[Bool.or_eq_false_iff,Bool.not_eq_false',Bool.and_eq_true,within3_iff]at h1 h3;obtain⟨⟨⟨h4,h5,h6⟩,h7⟩,h8⟩:=h3;exact⟨⟨by omega,h5,h6,by omega,h7,oddN_no h8⟩,h4⟩
theorem T4.get_n{t:T4}(ha:N62 t.a)(hb:N62 t.b)(hc:N62 t.c)(hd:N62 t.d)(i:Int):N62 (t.get i):=by
 unfold T4.get;split<;>(try assumption);split<;>(try assumption);split<;>assumption
theorem n62_max{a b:Int}(h:N62 a)(g:N62 b):N62 (Max.max a b):=by
 unfold N62 at*;omega
theorem putK_ok{k:KeptM}{n:Nat}{x:EntM}(h:k.ok)(hx:x.ok n):(putK k x).ok:=by
 have hm:=n62_max (T4.get_n h.a h.b h.c h.d x.cl) hx.n;have he:N62 x.ve:=⟨by have:=hx.ve;omega,hx.ve.2⟩;have hs:N62 x.vs:=⟨by have:=hx.vs;omega,hx.vs.2⟩;unfold putK;split
 · refine⟨he,hs,?_,?_,?_,?_⟩<;>(dsimp only;unfold T4.set;split<;>(try split)<;>(try split)<;>first|exact h.a|exact h.b|exact h.c|exact h.d|exact hm)
 · exact⟨he,hs,h.a,h.b,h.c,h.d⟩
theorem wrong_no{e s:Int}{ns:List Int}(h:wrongV e s ns=false):N62 e∧N62 s∧ ∃a b c d,ns=[a,b,c,d]∧N62 a∧N62 b∧N62 c∧N62 d:=by
 unfold wrongV mayV at h;simp only[Bool.or_eq_false_iff,Bool.not_eq_false',Bool.and_eq_true,within3_iff,decide_eq_false_iff_not,Decidable.not_not]at h;obtain⟨⟨⟨h1,h2⟩,h3⟩,h4⟩:=h
 match ns,h3 with
 | [a,b,c,d],_=>
  simp only[List.any_cons,List.any_nil,Bool.or_false,Bool.or_eq_false_iff]at h4;exact⟨h1,h2,a,b,c,d,rfl,oddN_no h4.1,oddN_no h4.2.1,oddN_no h4.2.2.1,oddN_no h4.2.2.2⟩
def T4.maxTo(t u:T4)(i:Nat):T4:=⟨if 0<i then Max.max t.a u.a else t.a,if 1<i then Max.max t.b u.b else t.b,if 2<i then Max.max t.c u.c else t.c,if 3<i then Max.max t.d u.d else t.d⟩
theorem noteK_ok{k:KeptM}{e s a b c d:Int}(h:k.ok)(he:N62 e)(hs:N62 s)(ha:N62 a)(hb:N62 b)(hc:N62 c)(hd:N62 d):(noteK k e s ⟨a,b,c,d⟩).ok:=by
 unfold noteK T4.max;refine⟨?_,?_,n62_max h.a ha,n62_max h.b hb,n62_max h.c hc,n62_max h.d hd⟩
 ·dsimp only;split
  · exact he
  · exact h.e
 ·dsimp only;split
  · exact hs
  · exact h.s
def caInit(L:LogM)(bl:Nat):CaM:=⟨L,bl,L.n,[],0,[],0,⟨0,0,⟨0,0,0,0⟩⟩⟩
def caLoad(bl:Nat):List (Bytes × Int)→Int→CaM→Option CaM
 | [],_,C=>some C
 |x::l,num,C=>match readC bl x.1 with
  |none=>none
  |some r=>caLoad bl l (num+1) (C.does r num)
def caOpen(D:Dev)(first n a b bl:Int):Int × CaM × Dev:=
 if bl<1∨32<bl∨n<8 then(1,caInit (log0 D first n.toNat a b) bl.toNat,D)else
 if(logOpen D first n a b).1≠0 then((logOpen D first n a b).1,caInit (logOpen D first n a b).2.1 bl.toNat,(logOpen D first n a b).2.2)else
 match caLoad bl.toNat (logOpen D first n a b).2.1.l (logOpen D first n a b).2.1.head (caInit (logOpen D first n a b).2.1 bl.toNat)with
 |none=>(4,caInit (logOpen D first n a b).2.1 bl.toNat,(logOpen D first n a b).2.2)
 |some C=>(0,C,(logOpen D first n a b).2.2)
theorem logOpen_ok{D:Dev}{first n a b:Int}(hD:D.ok)(h:(logOpen D first n a b).1=0):(logOpen D first n a b).2.1.ok (logOpen D first n a b).2.2∧(logOpen D first n a b).2.1.n=n.toNat:=by
 unfold logOpen at*;split at h
 ·cases h
 ·rename_i ha
  rw[if_neg ha];split at h
  ·rename_i he;exact absurd h he
  ·rename_i he
   rw[if_neg he];split at h
   ·cases h
   ·rename_i ht
    rw[if_neg ht];have hn:((n.toNat:Nat):Int)=n:=by unfold logArg at ha;omega
    exact⟨LogM.put_ok (log0_ok hD (by rw[hn];exact ha) (Classical.not_not.1 he) ht) _ _,rfl⟩
theorem whatC_ok{n:Nat}{kind:Int}{ts:List Bytes}{ns:List Int}{w:WhatM}(h:whatC n kind ts ns=some w):w.ok n:=by
 unfold whatC at h;split at h
 ·split at h
  ·rename_i hc
   simp only[Option.some.injEq]at h;subst h;obtain⟨h1,h2,h3,h4,h5,h6⟩:=hc;unfold inB mayV at*;simp only[Bool.and_eq_true,within3_iff]at h1 h2 h3 h4;exact⟨by dsimp only;omega,h2.1,h2.2,h6,h4,oddN_no h5⟩
  ·cases h
 ·split at h
  ·split at h
   ·rename_i hc
    simp only[Option.some.injEq]at h;subst h;obtain⟨h1,h2⟩:=hc;unfold inB mayV at*;simp only[Bool.and_eq_true,within3_iff]at h1 h2;exact⟨by omega,h2.1,h2.2⟩
   ·cases h
  ·split at h
   ·rename_i hc
    simp only[Option.some.injEq]at h;subst h;obtain⟨_,_,_,h1⟩:=hc;unfold inB at h1;rw[within3_iff]at h1;show 0≤ns.getD 0 0∧ns.getD 0 0<n;omega
   ·split at h
    ·simp only[Option.some.injEq]at h;subst h;trivial
    ·cases h
theorem readC_ok{n:Nat}{s:Bytes}{r:CrecM}(h:readC n s=some r):r.ok n:=by
 unfold readC at h;split at h
 ·cases h
 ·rename_i hb
  split at h
  ·cases h
  ·rename_i w hw
   simp only[Option.some.injEq]at h;subst h;refine⟨whatC_ok hw,?_⟩;have hb2:badC s=false:=by simpa using hb
   unfold badC at hb2;simp only[Bool.or_eq_false_iff,decide_eq_false_iff_not]at hb2;obtain⟨⟨_,h6⟩,ho⟩:=hb2;generalize hl:(decM s).1.nums.drop ((decM s).1.nums.length- 6)=l at*;have hl6:l.length=6:=by rw[←hl,List.length_drop];omega
   match l,hl6 with
   | [a,b,c,d,e,f],_=>
    simp only[List.any_cons,List.any_nil,Bool.or_false,Bool.or_eq_false_iff]at ho;exact⟨oddN_no ho.1,oddN_no ho.2.1,oddN_no ho.2.2.1,oddN_no ho.2.2.2.1,oddN_no ho.2.2.2.2.1,oddN_no ho.2.2.2.2.2⟩
theorem caInit_ok{L:LogM}{D:Dev}{bl:Nat}(h:L.ok D)(hb:1≤bl∧bl≤32)(hn:8≤L.n):(caInit L bl).ok D:=
 ⟨h,hb,rfl,hn,⟨aok_nil,aok_nil⟩,(by have z:N62 0:=⟨by decide,by decide⟩;exact⟨z,z,z,z,z,z⟩),(fun x hx=>(by cases hx)),(fun _=>rfl),(fun x hx=>(by cases hx)),(by simp[caInit])⟩
/-- A loop of loading: so far. -/
structure CaL(L:LogM)(bl:Nat)(D:Dev)(i:Nat)(C:CaM):Prop where
 ok:C.ok D
 l:C.l=L
 b:C.bl=bl
 pu: ∀x∈C.pu,x.2.1<L.head+i
 eq:caLoad bl L.l L.head (caInit L bl)=caLoad bl (L.l.drop i) (L.head+i) C
theorem CaL.init{L:LogM}{bl:Nat}{D:Dev}(h:L.ok D)(hb:1≤bl∧bl≤32)(hn:8≤L.n):CaL L bl D 0 (caInit L bl):=
 ⟨caInit_ok h hb hn,rfl,rfl,fun x hx=>(by cases hx),by simp⟩
theorem does_pu{C:CaM}{r:CrecM}{num:Int}(h: ∀x∈C.pu,x.2.1<num): ∀x∈(C.does r num).pu,x.2.1<num+1:=by
 obtain⟨w,k⟩:=r;unfold CaM.does CaM.eff;cases w with
 |put x=>
  intro y hy;rcases aput_mem hy with⟨q1,q2⟩|⟨q1,_⟩
  ·omega
  ·have:=h y q1;omega
 |clean b e s=>
  dsimp only;intro y hy;split at hy
  ·split at hy
   · have:=h y hy;omega
   · have:=h y hy;omega
  ·have:=h y hy;omega
 |drop b=>intro y hy;have:=h y (List.eraseP_sublist.subset hy);omega
 |note=>intro y hy;have:=h y hy;omega
theorem CaL.step{L:LogM}{bl:Nat}{D:Dev}{i:Nat}{C:CaM}(h:CaL L bl D i C){x:Bytes × Int}(hx:L.l[i]? =some x){r:CrecM}(hr:readC bl x.1=some r):CaL L bl D (i+1) (C.does r (L.head+i)):=by
 have hi:i<L.l.length:=(List.getElem?_eq_some_iff.1 hx).1;have hrk:=readC_ok hr;have hL:L.ok D:=by have:=h.ok.l;rw[h.l]at this;exact this
 have hok:=h.ok.does (r:=r) (by rw[h.b];exact hrk) hL (by rw[h.l]) (num:=L.head+i) h.pu (by unfold LogM.tail;omega);have he:({C with l:=L}:CaM)=C:=by rw[←h.l]
 rw[he]at hok;obtain⟨e1,e2,e3⟩:=CaM.does_l C r (L.head+i);refine⟨hok,by rw[e1];exact h.l,by rw[e2];exact h.b,?_,?_⟩
 ·have:=does_pu (r:=r) h.pu;rw[show L.head+((i+1:Nat):Int)=L.head+i+1 by omega];exact this
 ·rw[h.eq,List.drop_eq_getElem_cons hi];have hg:L.l[i]=x:=(List.getElem?_eq_some_iff.1 hx).2;rw[hg];unfold caLoad;rw[hr];dsimp only;rw[show L.head+((i+1:Nat):Int)=L.head+i+1 by omega];cases L.l.drop (i+1)<;>rfl
theorem CaL.fail{L:LogM}{bl:Nat}{D:Dev}{i:Nat}{C:CaM}(h:CaL L bl D i C){x:Bytes × Int}(hx:L.l[i]? =some x)(hr:readC bl x.1=none):caLoad bl L.l L.head (caInit L bl)=none:=by
 have hi:i<L.l.length:=(List.getElem?_eq_some_iff.1 hx).1;rw[h.eq,List.drop_eq_getElem_cons hi];have hg:L.l[i]=x:=(List.getElem?_eq_some_iff.1 hx).2;rw[hg];unfold caLoad;rw[hr]
theorem CaL.over{L:LogM}{bl:Nat}{D:Dev}{C:CaM}(h:CaL L bl D L.l.length C):caLoad bl L.l L.head (caInit L bl)=some C:=by
 rw[h.eq,List.drop_length];rfl
theorem caLoad_all: ∀(l:List (Bytes × Int)) {L:LogM} {bl:Nat} {D:Dev} {i:Nat} {C C':CaM},CaL L bl D i C→L.l.drop i=l→caLoad bl l (L.head+i) C=some C'→CaL L bl D L.l.length C'
 | [],L,bl,D,i,C,C',h,hl,hc=>by
  simp only[caLoad,Option.some.injEq]at hc;subst hc;have hi:L.l.length≤i:=List.drop_eq_nil_iff.1 hl;have e:caLoad bl (L.l.drop i) (L.head+i) C=caLoad bl (L.l.drop L.l.length) (L.head+L.l.length) C:=by rw[hl,List.drop_length];rfl
  rcases Nat.lt_or_ge L.l.length i with hlt|hge
  ·refine⟨h.ok,h.l,h.b,fun x hx=>?_,by rw[h.eq,e]⟩;have:=h.ok.pv x hx;rw[h.l]at this;exact this
  ·have:i=L.l.length:=by omega
   subst this;exact h
 |x::l,L,bl,D,i,C,C',h,hl,hc=>by
  unfold caLoad at hc;split at hc
  ·cases hc
  ·rename_i r hr
   have hx:L.l[i]? =some x:=by
    have:(L.l.drop i)[0]? =some x:=by rw[hl];rfl
    rw[List.getElem?_drop]at this;simpa using this
   have hs:=h.step hx hr;refine caLoad_all l hs ?_ (by rw[show L.head+((i+1:Nat):Int)=L.head+i+1 by omega];exact hc)
   rw[show i+1=1+i by omega,Nat.add_comm,←List.drop_drop,hl];rfl
theorem caOpen_ok{D:Dev}{first n a b bl:Int}(hD:D.ok)(h:(caOpen D first n a b bl).1=0):(caOpen D first n a b bl).2.1.ok (caOpen D first n a b bl).2.2:=by
 unfold caOpen at*;split at h
 ·cases h
 ·rename_i hb
  rw[if_neg hb];split at h
  ·rename_i ho;exact absurd h ho
  ·rename_i ho
   rw[if_neg ho];have ho2:(logOpen D first n a b).1=0:=Classical.not_not.1 ho;obtain⟨h1,h2⟩:=logOpen_ok hD ho2;split at h
   ·cases h
   ·rename_i C hC
    have hi:=CaL.init (bl:=bl.toNat) h1 (by omega) (by rw[h2];omega);exact(caLoad_all _ hi (List.drop_zero ..) (by simpa using hC)).ok
end Go.Sl