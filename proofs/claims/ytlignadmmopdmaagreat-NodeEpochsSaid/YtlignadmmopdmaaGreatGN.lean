/- A part of the proof. -/
import Derived.Test.YtlignadmmopdmaaGreatL2
import Derived.Test.YtlignadmmopdmaaGreatGB
set_option linter.unusedVariables false
set_option linter.unusedSimpArgs false
set_option linter.constructorNameAsVariable false
namespace Go.Sl
abbrev Am(α:Type):=List (Int × α × Nat)
section
variable {α : Type}
def oE(f:α→Value)(m:Am α):Kv:=m.map fun x=>(x.1,f x.2.1,x.2.2)
def bM(m:Am α)(k:Int):Option α:=(m.find? (fun x=>decide (x.1=k))).map (·.2.1)
def mH(m:Am α)(k:Int):Bool:=m.any fun x=>decide (x.1=k)
def zG(m:Am α)(k:Int)(v:α):Am α:=m.map fun x=>if x.1=k then(k,v,x.2.2)else x
def o9(m:Am α)(c:Nat)(k:Int)(v:α):Am α:=if mH m k then zG m k v else m++[(k,v,c)]
def Dx(m:Am α)(c:Nat)(k:Int):Nat:=if mH m k then c else c+1
def xf(m:Am α)(k:Int):Am α:=m.eraseP fun x=>decide (x.1=k)
structure F7(m:Am α)(c:Nat):Prop where
 uniq:(m.map (·.1)).Nodup
 born: ∀x∈m,x.2.2<c
 once:(m.map (·.2.2)).Nodup
theorem Jc(f:α→Value)(m:Am α)(k:Int):(oE f m).any (fun x=>decide (x.1=k))=mH m k:=by simp[oE,mH,List.any_map,Function.comp_def]
theorem BC(f:α→Value)(m:Am α)(c:Nat)(k:Int)(v:α):oT (oE f m) c k (f v)=oE f (o9 m c k v):=by
 unfold oT o9;rw[Jc];split
 ·simp only[EZ,oE,zG,List.map_map];apply List.map_congr_left;intro x _;simp only[Function.comp];split<;>simp_all
 ·simp[oE]
theorem BB(f:α→Value)(m:Am α)(c:Nat)(k:Int):Ab (oE f m) c k=Dx m c k:=by unfold Ab Dx;rw[Jc]
theorem mg(f:α→Value)(m:Am α)(k:Int):ij (oE f m) k=(bM m k).map f:=by
 unfold ij bM oE;rw[List.find?_map];simp only[Function.comp_def,Option.map_map]
theorem Jd(f:α→Value)(m:Am α)(k:Int):Cx (oE f m) k=oE f (xf m k):=by
 unfold Cx xf oE;rw[List.eraseP_map];rfl
theorem xh(f:α→Value){m:Am α}{c:Nat}(h:F7 m c):uniq (oE f m):=by
 unfold uniq oE;simpa[List.map_map,Function.comp_def]using h.uniq
theorem u6(f:α→Value){m:Am α}{c:Nat}(h:F7 m c):stamped (oE f m) c:=by
 refine⟨fun x hx=>?_,?_⟩
 · obtain⟨y,hy,rfl⟩:=List.mem_map.1 hx;exact h.born y hy
 · unfold oE;simpa[List.map_map,Function.comp_def]using h.once
theorem wM:F7 ([]:Am α) 0:=⟨by simp,(fun x h=>by cases h),by simp⟩
theorem o7{m:Am α}{k:Int}:mH m k=true↔ ∃x∈m,x.1=k:=by simp[mH]
theorem jY{m:Am α}{k:Int}{v:α}(h:bM m k=some v): ∃b,(k,v,b)∈m:=by
 unfold bM at h;obtain⟨x,hx,rfl⟩:=Option.map_eq_some_iff.1 h;have h1:=List.find?_some hx;have h2:=List.mem_of_find?_eq_some hx;simp only[decide_eq_true_eq]at h1;subst h1;exact⟨_,h2⟩
theorem DC{m:Am α}{c:Nat}(h:F7 m c){x:Int × α × Nat}(hx:x∈m):bM m x.1=some x.2.1:=by
 have hu:=h.uniq;clear h;unfold bM
 induction m with
 |nil=>cases hx
 |cons y m ih=>
  simp only[List.map_cons,List.nodup_cons]at hu
  by_cases e:y.1=x.1
  ·rcases List.mem_cons.1 hx with rfl|hx
   · simp
   · exact absurd (List.mem_map.2 ⟨x,hx,e.symm⟩) hu.1
  ·rcases List.mem_cons.1 hx with rfl|hx
   · exact absurd rfl e
   · rw[List.find?_cons_of_neg (by simpa using e)];exact ih hx hu.2
theorem lK{m:Am α}{k:Int}:mH m k=(bM m k).isSome:=by
 unfold mH bM;rw[Option.isSome_map,Bool.eq_iff_iff,List.find?_isSome,List.any_eq_true]
theorem pX(m:Am α)(c:Nat)(k:Int)(v:α)(j:Int):bM (o9 m c k v) j=if j=k then some v else bM m j:=by
 unfold o9;cases hh:mH m k with
 |true=>
  rw[if_pos rfl];unfold bM zG;rw[List.find?_map]
  by_cases e:j=k
  ·subst e;rw[if_pos rfl];obtain⟨x,hx,hxk⟩:=o7.1 hh
   have:(m.find? ((fun x:Int × α × Nat=>decide (x.1=j))∘fun x=>if x.1=j then(j,v,x.2.2)else x)).isSome=true:=by
    rw[List.find?_isSome];exact⟨x,hx,by simp[hxk]⟩
   obtain⟨y,hy⟩:=Option.isSome_iff_exists.1 this;have h1:=List.find?_some hy;rw[hy];simp only[Function.comp]at h1;simp only[Option.map_some];split at h1
   ·rename_i h2;rw[if_pos h2]
   ·rename_i h2;simp only[decide_eq_true_eq]at h1;exact absurd h1 h2
  ·rw[if_neg e]
   have:((fun x:Int × α × Nat=>decide (x.1=j))∘fun x=>if x.1=k then(k,v,x.2.2)else x)=fun x:Int × α × Nat=>decide (x.1=j):=by
    funext x
    simp only[Function.comp];split
    · rename_i h;rw[h]
    · rfl
   rw[this];cases hf:m.find? (fun x=>decide (x.1=j))with
   |none=>rfl
   |some x=>
    have h1:=List.find?_some hf;simp only[decide_eq_true_eq]at h1;simp only[Option.map_some];rw[if_neg (by rw[h1];exact e)]
 |false=>
  rw[if_neg (by simp)];unfold bM;rw[List.find?_append]
  by_cases e:j=k
  ·subst e;rw[if_pos rfl]
   have:m.find? (fun x=>decide (x.1=j))=none:=by
    rw[List.find?_eq_none];intro x hx;unfold mH at hh;rw[List.any_eq_false]at hh;exact hh x hx
   rw[this];simp
  ·rw[if_neg e];simp[show¬k=j from fun q=>e q.symm]
theorem uf{m:Am α}{c:Nat}(h:F7 m c)(k j:Int):bM (xf m k) j=if j=k then none else bM m j:=by
 have hu:=h.uniq;clear h;unfold bM xf
 induction m with
 |nil=>simp
 |cons y m ih=>
  simp only[List.map_cons,List.nodup_cons]at hu
  by_cases e:y.1=k
  ·rw[List.eraseP_cons_of_pos (by simpa using e)]
   by_cases ej:j=k
   ·rw[if_pos ej]
    have:m.find? (fun x=>decide (x.1=j))=none:=by
     rw[List.find?_eq_none];intro x hx hc;simp only[decide_eq_true_eq]at hc;exact hu.1 (List.mem_map.2 ⟨x,hx,by rw[hc,ej,e]⟩)
    rw[this];rfl
   ·rw[if_neg ej,List.find?_cons_of_neg (by simp;omega)]
  ·rw[List.eraseP_cons_of_neg (by simpa using e)]
   by_cases ey:y.1=j
   ·rw[List.find?_cons_of_pos (by simpa using ey),if_neg (by omega),List.find?_cons_of_pos (by simpa using ey)]
   ·rw[List.find?_cons_of_neg (by simpa using ey),ih hu.2,List.find?_cons_of_neg (by simpa using ey)]
theorem Kx(m:Am α)(k:Int)(v:α):(zG m k v).map (·.1)=m.map (·.1):=by
 unfold zG;rw[List.map_map];apply List.map_congr_left;intro x _;simp only[Function.comp];split<;>simp_all
theorem xk(m:Am α)(k:Int)(v:α):(zG m k v).map (·.2.2)=m.map (·.2.2):=by
 unfold zG;rw[List.map_map];apply List.map_congr_left;intro x _;simp only[Function.comp];split<;>simp_all
theorem F7.put{m:Am α}{c:Nat}(h:F7 m c)(k:Int)(v:α):F7 (o9 m c k v) (Dx m c k):=by
 unfold o9 Dx;cases hh:mH m k with
 |true=>
  rw[if_pos rfl,if_pos rfl];refine⟨by rw[Kx];exact h.uniq,fun x hx=>?_,by rw[xk];exact h.once⟩;have h1:x.2.2∈(zG m k v).map (·.2.2):=List.mem_map.2 ⟨x,hx,rfl⟩;rw[xk]at h1;obtain⟨y,hy,e⟩:=List.mem_map.1 h1;have e:y.2.2=x.2.2:=e;rw[←e];exact h.born y hy
 |false=>
  rw[if_neg (by simp),if_neg (by simp)];have hn: ∀x∈m,¬x.1=k:=fun x hx e=>by rw[o7.2 ⟨x,hx,e⟩]at hh;cases hh
  refine⟨?_,fun x hx=>?_,?_⟩
  ·rw[List.map_append,List.nodup_append];refine⟨h.uniq,by simp,?_⟩;intro a ha b hb;simp only[List.map_cons,List.map_nil,List.mem_singleton]at hb;subst hb;obtain⟨x,hx,rfl⟩:=List.mem_map.1 ha;exact hn x hx
  ·rcases List.mem_append.1 hx with hx|hx
   · have:=h.born x hx;omega
   · simp only[List.mem_singleton]at hx;subst hx;dsimp only;omega
  ·rw[List.map_append,List.nodup_append];refine⟨h.once,by simp,?_⟩;intro a ha b hb;simp only[List.map_cons,List.map_nil,List.mem_singleton]at hb;subst hb;obtain⟨x,hx,rfl⟩:=List.mem_map.1 ha;have:=h.born x hx;show¬x.2.2=_;omega
theorem F7.del{m:Am α}{c:Nat}(h:F7 m c)(k:Int):F7 (xf m k) c:=by
 have hs:(xf m k).Sublist m:=List.eraseP_sublist;exact⟨(hs.map _).nodup h.uniq,fun x hx=>h.born x (hs.subset hx),(hs.map _).nodup h.once⟩
end
structure T4 where
 a:Int
 b:Int
 c:Int
 d:Int
 deriving DecidableEq
def T4.l(t:T4):List Int:=[t.a,t.b,t.c,t.d]
def T4.get(t:T4)(i:Int):Int:=if i=0 then t.a else if i=1 then t.b else if i=2 then t.c else t.d
def T4.set(t:T4)(i:Int)(v:Int):T4:=if i=0 then{t with a:=v}else if i=1 then{t with b:=v}else if i=2 then{t with c:=v}else{t with d:=v}
structure bT where
 e:Int
 s:Int
 t:T4
 deriving DecidableEq
def bT.aH(k:bT):List Int:=[k.e,k.s,k.t.a,k.t.b,k.t.c,k.t.d]
structure bd where
 bE:Int
 ve:Int
 vs:Int
 data:Bytes
 bZ:Bool
 cl:Int
 n:Int
 deriving DecidableEq
def bd.cells(x:bd):List Value:=[iV x.bE,iV x.ve,iV x.vs,sV x.data,.bool x.bZ,iV x.cl,iV x.n]
def bd.zero:bd:=⟨0,0,0,[],false,0,0⟩
inductive cu where
 |put (x:bd)
 |clean (b e s:Int)
 |drop (b:Int)
 |note
structure bI where
 w:cu
 k:bT
def mI(b:Bool):Int:=if b=true then 1 else 0
def cu.kind:cu→Int
 | .put _=>10
 | .clean _ _ _=>11
 | .drop _=>12
 | .note=>13
def cu.aH:cu→List Int
 | .put x=>[x.bE,x.ve,x.vs,mI x.bZ,x.cl,x.n]
 | .clean b e s=>[b,e,s]
 | .drop b=>[b]
 | .note=>[]
def cu.texts:cu→List Bytes
 | .put x=>[x.data]
 |_=>[]
def bI.rc(r:bI):RecM:=⟨r.w.kind,r.w.aH++r.k.aH,r.w.texts⟩
def qI(n:Int):Bool:= !(aI n 0 4611686018427387904)
def oR(e s least:Int):Bool:=aI e least 4611686018427387904&&aI s least 4611686018427387904
def ER(n:Nat)(b:Int):Bool:=aI b 0 (n- 1)
def gq(n:Nat)(kind:Int)(texts:List Bytes)(ns:List Int):Option cu:=
 if kind=10∧ns.length=6∧texts.length=1 then
  if ER n (ns.getD 0 0)=true∧oR (ns.getD 1 0) (ns.getD 2 0) 1=true∧aI (ns.getD 3 0) 0 1=true∧aI (ns.getD 4 0) (-1) 3=true∧qI (ns.getD 5 0)=false∧(texts.getD 0 []).length=8 then
   some (.put ⟨ns.getD 0 0,ns.getD 1 0,ns.getD 2 0,texts.getD 0 [],decide (ns.getD 3 0=1),ns.getD 4 0,ns.getD 5 0⟩)else none
 else if kind=11∧ns.length=3∧texts.length=0 then
  if ER n (ns.getD 0 0)=true∧oR (ns.getD 1 0) (ns.getD 2 0) 1=true then some (.clean (ns.getD 0 0) (ns.getD 1 0) (ns.getD 2 0))else none
 else if kind=12∧ns.length=1∧texts.length=0∧ER n (ns.getD 0 0)=true then some (.drop (ns.getD 0 0))
 else if kind=13∧ns.length=0∧texts.length=0 then some .note else none
def ahi(ns:List Int):bT:=⟨ns.getD 0 0,ns.getD 1 0,ns.getD 2 0,ns.getD 3 0,ns.getD 4 0,ns.getD 5 0⟩
def uk(s:Bytes):Bool:= !decide ((bX s).2=0)||decide (((bX s).1.aH.length:Int)- 6<0)||((bX s).1.aH.drop ((bX s).1.aH.length- 6)).any qI
def iq(n:Nat)(s:Bytes):Option bI:=
 if uk s=true then none else
 match gq n (bX s).1.kind (bX s).1.texts ((bX s).1.aH.take ((bX s).1.aH.length- 6))with
 |none=>none
 |some w=>some ⟨w,ahi ((bX s).1.aH.drop ((bX s).1.aH.length- 6))⟩
def gg(n:Int):Prop:=0≤n∧n≤4611686018427387904
structure bT.ok(k:bT):Prop where
 e:gg k.e
 s:gg k.s
 a:gg k.t.a
 b:gg k.t.b
 c:gg k.t.c
 d:gg k.t.d
structure bd.ok(n:Nat)(x:bd):Prop where
 bE:0≤x.bE∧x.bE<n
 ve:1≤x.ve∧x.ve≤4611686018427387904
 vs:1≤x.vs∧x.vs≤4611686018427387904
 data:x.data.length=8
 cl: -1≤x.cl∧x.cl≤3
 n:gg x.n
def cu.ok(n:Nat):cu→Prop
 | .put x=>x.ok n
 | .clean b e s=>(0≤b∧b<n)∧(1≤e∧e≤4611686018427387904)∧(1≤s∧s≤4611686018427387904)
 | .drop b=>0≤b∧b<n
 | .note=>True
structure bI.ok(n:Nat)(r:bI):Prop where
 w:r.w.ok n
 k:r.k.ok
theorem iA{n lo hi:Int}(h:lo≤n∧n≤hi):aI n lo hi=true:=by unfold aI;simp[h.1,h.2]
theorem rI{n:Int}(h:gg n):qI n=false:=by unfold qI;rw[iA h];rfl
theorem jc{n:Int}(h:qI n=false):gg n:=by
 unfold qI aI at h;simp only[Bool.not_eq_false',Bool.and_eq_true,decide_eq_true_eq]at h;exact h
theorem bT.ok.odd{k:bT}(h:k.ok):k.aH.any qI=false:=by
 simp[bT.aH,rI h.e,rI h.s,rI h.a,rI h.b,rI h.c,rI h.d]
theorem bI.ok.may{n:Nat}(hn:n≤32){r:bI}(h:r.ok n):r.rc.may:=by
 obtain⟨w,k⟩:=r;obtain⟨hw,hk⟩:=h
 have Wx: ∀m∈k.aH,-9223372036854775808≤m∧m≤9223372036854775807:=by
  intro m hm;obtain⟨⟨a1,a2⟩,⟨b1,b2⟩,⟨c1,c2⟩,⟨d1,d2⟩,⟨e1,e2⟩,⟨f1,f2⟩⟩:=hk;simp only[bT.aH,List.mem_cons,List.not_mem_nil,or_false]at hm;rcases hm with rfl|rfl|rfl|rfl|rfl|rfl<;>dsimp only at* <;>omega
 have zE: ∀m∈w.aH,-9223372036854775808≤m∧m≤9223372036854775807:=by
  intro m hm;cases w with
  |put x=>
   obtain⟨h1,h2,h3,h4,h5,h6⟩:=hw;obtain⟨h6,h7⟩:=h6;have hd:mI x.bZ=0∨mI x.bZ=1:=by unfold mI;split<;>simp
   simp only[cu.aH,List.mem_cons,List.not_mem_nil,or_false]at hm;rcases hm with rfl|rfl|rfl|rfl|rfl|rfl<;>omega
  |clean b e s=>
   obtain⟨h1,h2,h3⟩:=hw;simp only[cu.aH,List.mem_cons,List.not_mem_nil,or_false]at hm;rcases hm with rfl|rfl|rfl<;>omega
  |drop b=>
   simp only[cu.aH,List.mem_cons,List.not_mem_nil,or_false]at hm;subst hm;have h1:0≤m∧m<n:=hw;omega
  |note=>cases hm
 refine⟨?_,?_,?_,?_,?_,fun m hm=>?_⟩
 ·cases w<;>simp[bI.rc,cu.kind]
 ·cases w<;>simp[bI.rc,cu.kind]
 ·cases w<;>simp[bI.rc,cu.aH,bT.aH]
 ·cases w<;>simp[bI.rc,cu.texts]
 ·intro t ht;cases w with
  |put x=>
   have:=hw.data;simp only[bI.rc,cu.texts,List.mem_singleton]at ht;subst ht;omega
  |_=>simp[bI.rc,cu.texts]at ht
 ·rcases List.mem_append.1 hm with hm|hm
  ·exact zE m hm
  ·exact Wx m hm
theorem Mn{n:Nat}(hn:n≤32){r:bI}(h:r.ok n):iq n (bL r.rc)=some r:=by
 have hm:=lC (nF (h.may hn));obtain⟨w,k⟩:=r;obtain⟨hw,hk⟩:=h;have hl:(bI.rc ⟨w,k⟩).aH.length=w.aH.length+6:=by simp[bI.rc,bT.aH]
 have hd:(bI.rc ⟨w,k⟩).aH.drop ((bI.rc ⟨w,k⟩).aH.length- 6)=k.aH:=by
  rw[hl,Nat.add_sub_cancel];simp[bI.rc]
 have ht:(bI.rc ⟨w,k⟩).aH.take ((bI.rc ⟨w,k⟩).aH.length- 6)=w.aH:=by
  rw[hl,Nat.add_sub_cancel];simp[bI.rc]
 have hb:uk (bL (bI.rc ⟨w,k⟩))=false:=by
  unfold uk;rw[hm,hd,hk.odd,hl];simp
 unfold iq;rw[if_neg (by rw[hb];simp),hm];dsimp only;rw[hd,ht]
 have sS:gq n (bI.rc ⟨w,k⟩).kind (bI.rc ⟨w,k⟩).texts w.aH=some w:=by
  cases w with
  |put x=>
   obtain⟨h1,h2,h3,h4,h5,h6⟩:=hw;have hdd:aI (mI x.bZ) 0 1=true∧decide (mI x.bZ=1)=x.bZ:=by cases x.bZ<;>decide
   unfold gq;rw[if_pos ⟨rfl,rfl,rfl⟩,if_pos ⟨iA (show 0≤x.bE∧x.bE≤n- 1 by omega),by unfold oR;rw[show aI ((cu.put x).aH.getD 1 0) 1 _=true from iA h2,show aI ((cu.put x).aH.getD 2 0) 1 _=true from iA h3];rfl,hdd.1,iA (show-1≤x.cl∧x.cl≤3 from h5),rI h6,h4⟩];have e:decide (([x.bE,x.ve,x.vs,mI x.bZ,x.cl,x.n]:List Int).getD 3 0=1)=x.bZ:=hdd.2;show some (cu.put ⟨x.bE,x.ve,x.vs,x.data,_,x.cl,x.n⟩)=_;rw[show(cu.put x).aH=[x.bE,x.ve,x.vs,mI x.bZ,x.cl,x.n]from rfl,e]
  |clean b e s=>
   obtain⟨h1,h2,h3⟩:=hw;unfold gq;rw[if_neg (by simp[bI.rc,cu.kind]),if_pos ⟨rfl,rfl,rfl⟩,if_pos ⟨iA (show 0≤b∧b≤n- 1 by omega),by unfold oR;rw[show aI ((cu.clean b e s).aH.getD 1 0) 1 _=true from iA h2,show aI ((cu.clean b e s).aH.getD 2 0) 1 _=true from iA h3];rfl⟩];rfl
  |drop b=>
   have h1:0≤b∧b<n:=hw;unfold gq;rw[if_neg (by simp[bI.rc,cu.kind]),if_neg (by simp[bI.rc,cu.kind]),if_pos ⟨rfl,rfl,rfl,iA (show 0≤b∧b≤n- 1 by omega)⟩];rfl
  |note=>rfl
 rw[sS];rfl
end Go.Sl
namespace Go.Sl
structure aQ where
 l:aU
 bl:Nat
 n:Nat
 en:Am bd
 ce:Nat
 pu:Am Int
 cp:Nat
 k:bT
def aQ.MU(C:aQ)(w:cu)(num:Int):aQ:=match w with
 | .put x=>{C with en:=o9 C.en C.ce x.bE x,ce:=Dx C.en C.ce x.bE,pu:=o9 C.pu C.cp x.bE num,cp:=Dx C.pu C.cp x.bE}
 | .clean b e s=>match bM C.en b with
  |some y=>if y.ve=e∧y.vs=s then{C with en:=o9 C.en C.ce b {y with bZ:=false},ce:=Dx C.en C.ce b}else C
  |none=>C
 | .drop b=>{C with en:=xf C.en b,pu:=xf C.pu b}
 | .note=>C
def aQ.ec(C:aQ)(r:bI)(num:Int):aQ:={C.MU r.w num with k:=r.k}
structure aQ.UE(C:aQ):Prop where
 e:F7 C.en C.ce
 p:F7 C.pu C.cp
theorem aQ.UE.ec{C:aQ}(h:C.UE)(r:bI)(num:Int):(C.ec r num).UE:=by
 obtain⟨w,k⟩:=r;unfold aQ.ec aQ.MU;cases w with
 |put x=>exact⟨h.e.put _ _,h.p.put _ _⟩
 |clean b e s=>
  dsimp only;split
  ·split
   · exact⟨h.e.put _ _,h.p⟩
   · exact⟨h.e,h.p⟩
  ·exact⟨h.e,h.p⟩
 |drop b=>exact⟨h.e.del _,h.p.del _⟩
 |note=>exact⟨h.e,h.p⟩
theorem aQ.pj(C:aQ)(r:bI)(num:Int):(C.ec r num).l=C.l∧(C.ec r num).bl=C.bl∧(C.ec r num).n=C.n:=by
 obtain⟨w,k⟩:=r;unfold aQ.ec aQ.MU;cases w with
 |clean b e s=>
  dsimp only;split
  · split<;>exact⟨rfl,rfl,rfl⟩
  · exact⟨rfl,rfl,rfl⟩
 |_=>exact⟨rfl,rfl,rfl⟩
theorem A9: ∀(n:Nat) (b:Bytes) (q:List Int × Bytes),ju n b=some q→q.1.length=n
 |0,_,q,h=>by simp only[ju,Option.some.injEq]at h;subst h;rfl
 |n+1,b,q,h=>by
  unfold ju at h;split at h
  ·cases h
  ·split at h
   ·cases h
   ·rename_i q2 h2
    have:=A9 n _ _ h2;simp only[Option.some.injEq]at h;subst h;simp only[List.length_cons];omega
theorem sy(bs:Bytes):(bX bs).1.aH.length≤16:=by
 unfold bX;cases h:lU bs with
 |none=>simp
 |some r=>
  dsimp only
  match bs,h with
  |k::hh::b,h=>
   unfold lU at h;dsimp only at h;split at h
   ·cases h
   ·split at h
    ·cases h
    ·rename_i q hq
     have h1:=A9 _ _ _ hq;split at h
     ·cases h
     ·split at h
      ·simp only[Option.some.injEq]at h;subst h;dsimp only;rw[h1];unfold kX;split<;>omega
      ·cases h
def jg(e s e' s':Int):Bool:=decide (e'<e)||(decide (e=e')&&decide (s'<s))
def fL(C:aQ)(k:Nat):List bd:=(List.range k).filterMap fun i=>bM C.en (i:Nat)
def aQ.all(C:aQ):List bd:=fL C C.bl
theorem hX(C:aQ)(k:Nat):fL C (k+1)=match bM C.en (k:Nat)with|some x=>fL C k++[x]|none=>fL C k:=by
 unfold fL;rw[List.range_succ,List.filterMap_append];cases h:bM C.en (k:Nat)<;>simp[h]
theorem mV(C:aQ)(k:Nat):(fL C k).length≤k:=by
 unfold fL;exact Nat.le_trans (List.length_filterMap_le _ _) (by simp)
def aQ.add(C:aQ)(D:az)(r:bI):Int × aQ × az:=
 ((C.l.append D (bL r.rc)).1,
  if(C.l.append D (bL r.rc)).1=0 then aQ.ec {C with l:=(C.l.append D (bL r.rc)).2.1} r C.l.tail else{C with l:=(C.l.append D (bL r.rc)).2.1},
  (C.l.append D (bL r.rc)).2.2)
def aQ.j9(C:aQ):Option bd:=(C.pu.find? fun x=>decide (x.2.1=C.l.head)).map fun x=>(bM C.en x.1).getD .zero
def aQ.free(C:aQ):Int:=(C.l.n:Int)-C.l.l.length
def aQ.again(C:aQ)(D:az):Int × aQ × az:=match C.j9 with
 |some x=>C.add D ⟨.put x,C.k⟩
 |none=>(0,C,D)
def aQ.cut(C:aQ)(D:az)(m:Int):Int × aQ × az:=((C.l.trim D m).1,{C with l:=(C.l.trim D m).2.1},(C.l.trim D m).2.2)
def aQ.oS:Nat→aQ→az→Int × aQ × az
 |0,C,D=>(if C.free<4 then 12 else 0,C,D)
 |f+1,C,D=>if 4≤C.free then(0,C,D)else
  if(C.again D).1≠0 then C.again D else
  if((C.again D).2.1.cut (C.again D).2.2 (C.l.head+1)).1≠0 then(C.again D).2.1.cut (C.again D).2.2 (C.l.head+1)else
  aQ.oS f ((C.again D).2.1.cut (C.again D).2.2 (C.l.head+1)).2.1 ((C.again D).2.1.cut (C.again D).2.2 (C.l.head+1)).2.2
def aQ.make(C:aQ)(D:az):Int × aQ × az:=aQ.oS C.n C D
def aQ.eH(C:aQ)(D:az)(r:bI):Int × aQ × az:=if(C.make D).1≠0 then C.make D else(C.make D).2.1.add (C.make D).2.2 r
def gn(C:aQ)(s:Int × Bool)(x:bd):Int × Bool:=
 if(!x.bZ&&(!s.2||jg ((bM C.en s.1).getD .zero).ve ((bM C.en s.1).getD .zero).vs x.ve x.vs))=true then(x.bE,true)else s
def aQ.spare(C:aQ):Int × Bool:=C.all.foldl (gn C) (0,false)
def pS(k:bT)(x:bd):bT:=⟨x.ve,x.vs,if 0≤x.cl then k.t.set x.cl (max (k.t.get x.cl) x.n)else k.t⟩
def ji(C:aQ)(x:bd):Bool:= !(jg x.ve x.vs C.k.e C.k.s)|| !(oR x.ve x.vs 1)|| !(aI x.cl (-1) 3)||qI x.n
def aQ.put(C:aQ)(D:az)(x:bd):Int × aQ × az:=
 if ER C.bl x.bE=false then(2,C,D)else if¬(x.data.length:Int)=8 then(3,C,D)else if ji C x=true then(1,C,D)else
 if(bM C.en x.bE).isSome=true∨(C.en.length:Int)<(C.n:Int)- 6 then C.eH D ⟨.put x,pS C.k x⟩else
 if C.spare.2=false then(12,C,D)else
 if(C.eH D ⟨.drop C.spare.1,C.k⟩).1≠0 then C.eH D ⟨.drop C.spare.1,C.k⟩else
 (C.eH D ⟨.drop C.spare.1,C.k⟩).2.1.add (C.eH D ⟨.drop C.spare.1,C.k⟩).2.2 ⟨.put x,pS C.k x⟩
def aQ.clean(C:aQ)(D:az)(b e s:Int):Int × aQ × az:=match bM C.en b with
 |none=>(10,C,D)
 |some y=>if¬(y.ve=e∧y.vs=s)then(10,C,D)else if y.bZ=false then(0,C,D)else C.eH D ⟨.clean b e s,C.k⟩
def aQ.drop(C:aQ)(D:az)(b:Int):Int × aQ × az:=if(bM C.en b).isSome=true then C.eH D ⟨.drop b,C.k⟩else(10,C,D)
def mS(e s:Int)(ns:List Int):Bool:= !oR e s 0||decide (ns.length≠4)||ns.any qI
def FR(ns:List Int):T4:=⟨ns.getD 0 0,ns.getD 1 0,ns.getD 2 0,ns.getD 3 0⟩
def aQ.reset(C:aQ)(D:az)(e s:Int)(ns:List Int):Int × aQ × az:=if mS e s ns=true then(1,C,D)else C.eH D ⟨.note,⟨e,s,FR ns⟩⟩
def T4.max(t u:T4):T4:=⟨Max.max t.a u.a,Max.max t.b u.b,Max.max t.c u.c,Max.max t.d u.d⟩
def yC(k:bT)(e s:Int)(t:T4):bT:=⟨if jg e s k.e k.s=true then e else k.e,if jg e s k.e k.s=true then s else k.s,k.t.max t⟩
def aQ.note(C:aQ)(D:az)(e s:Int)(ns:List Int):Int × aQ × az:=if mS e s ns=true then(1,C,D)else C.eH D ⟨.note,yC C.k e s (FR ns)⟩
def aQ.sync(C:aQ)(D:az):Int × aQ × az:=(D.aJ.1,C,D.aJ.2)
structure aQ.ok(C:aQ)(D:az):Prop where
 l:C.l.ok D
 bl:1≤C.bl∧C.bl≤32
 n:C.n=C.l.n
 n8:8≤C.n
 m:C.UE
 k:C.k.ok
 en: ∀x∈C.en,x.2.1.ok C.bl∧x.2.1.bE=x.1
 keys: ∀i,mH C.pu i=mH C.en i
 pv: ∀x∈C.pu,x.2.1<C.l.tail
 pn:(C.pu.map (·.2.1)).Nodup
theorem aQ.ok.d{C:aQ}{D:az}(h:C.ok D):D.ok:=h.l.d
theorem sf{α:Type}{m:Am α}{c:Nat}{k:Int}{v:α}{x:Int × α × Nat}(h:x∈o9 m c k v):(x.1=k∧x.2.1=v)∨(x∈m∧ ¬x.1=k):=by
 unfold o9 at h;split at h
 ·obtain⟨y,hy,rfl⟩:=List.mem_map.1 h;split
  · exact .inl ⟨rfl,rfl⟩
  · rename_i e;exact .inr ⟨hy,e⟩
 ·rename_i hn
  rcases List.mem_append.1 h with h|h
  · exact .inr ⟨h,fun e=>hn (o7.2 ⟨x,h,e⟩)⟩
  · simp only[List.mem_singleton]at h;subst h;exact .inl ⟨rfl,rfl⟩
theorem ug{α:Type}(m:Am α)(c:Nat)(k:Int)(v:α)(i:Int):mH (o9 m c k v) i=(decide (i=k)||mH m i):=by
 rw[lK,pX,lK]
 by_cases e:i=k<;>simp[e]
theorem As{α:Type}{m:Am α}{c:Nat}(h:F7 m c)(k i:Int):mH (xf m k) i=(!decide (i=k)&&mH m i):=by
 rw[lK,uf h,lK]
 by_cases e:i=k<;>simp[e]
theorem Ky{m:Am Int}{k v:Int}(hu:(m.map (·.1)).Nodup)(hn:(m.map (·.2.1)).Nodup)(hv: ∀x∈m,¬x.2.1=v):((zG m k v).map (·.2.1)).Nodup:=by
 unfold zG;rw[List.map_map]
 induction m with
 |nil=>simp
 |cons y m ih=>
  simp only[List.map_cons,List.nodup_cons]at hu hn ⊢;refine⟨fun h=>?_,ih hu.2 hn.2 (fun x hx=>hv x (by simp[hx]))⟩;obtain⟨z,hz,e⟩:=List.mem_map.1 h;simp only[Function.comp]at e
  by_cases ez:z.1=k
  ·rw[if_pos ez]at e
   by_cases ey:y.1=k
   ·exact hu.1 (List.mem_map.2 ⟨z,hz,by rw[ez,ey]⟩)
   ·rw[if_neg ey]at e;exact hv y (by simp) e.symm
  ·rw[if_neg ez]at e
   by_cases ey:y.1=k
   ·rw[if_pos ey]at e;exact hv z (by simp[hz]) e
   ·rw[if_neg ey]at e;exact hn.1 (List.mem_map.2 ⟨z,hz,e⟩)
theorem Kw{m:Am Int}{c:Nat}{k v:Int}(h:F7 m c)(hn:(m.map (·.2.1)).Nodup)(hv: ∀x∈m,¬x.2.1=v):((o9 m c k v).map (·.2.1)).Nodup:=by
 unfold o9;split
 ·exact Ky h.uniq hn hv
 ·rw[List.map_append,List.nodup_append];refine⟨hn,by simp,?_⟩;intro a ha b hb;simp only[List.map_cons,List.map_nil,List.mem_singleton]at hb;subst hb;obtain⟨x,hx,rfl⟩:=List.mem_map.1 ha;exact hv x hx
theorem aQ.ok.ec{C:aQ}{D:az}(h:C.ok D){r:bI}(hr:r.ok C.bl){L:aU}{D':az}(hL:L.ok D')(hn:L.n=C.l.n){num:Int}(h1: ∀x∈C.pu,x.2.1<num)(h2:num<L.tail):
  (aQ.ec {C with l:=L} r num).ok D':=by
 obtain⟨w,k⟩:=r;have hm:=aQ.UE.ec (C:={C with l:=L}) ⟨h.m.e,h.m.p⟩ ⟨w,k⟩ num;obtain⟨e1,e2,e3⟩:=aQ.pj {C with l:=L} ⟨w,k⟩ num;have hpv: ∀x∈C.pu,x.2.1<L.tail:=fun x hx=>by have:=h1 x hx;omega
 refine⟨by rw[e1];exact hL,by rw[e2];exact h.bl,by rw[e3,e1];exact h.n.trans hn.symm,by rw[e3];exact h.n8,hm,hr.k,?_,?_,?_,?_⟩
 all_goals try rw[e2]
 ·cases w with
  |put x=>
   intro y hy;rcases sf hy with⟨q1,q2⟩|⟨q1,_⟩
   ·rw[q1,q2];exact⟨hr.w,rfl⟩
   ·exact h.en y q1
  |clean b e s=>
   intro y hy;unfold aQ.ec aQ.MU at hy;dsimp only at hy;split at hy
   ·rename_i z hz
    obtain⟨bz,hbz⟩:=jY hz;have ZU:=h.en _ hbz;split at hy
    ·rcases sf hy with⟨q1,q2⟩|⟨q1,_⟩
     · rw[q1,q2];exact⟨⟨ZU.1.bE,ZU.1.ve,ZU.1.vs,ZU.1.data,ZU.1.cl,ZU.1.n⟩,ZU.2⟩
     · exact h.en y q1
    ·exact h.en y hy
   ·exact h.en y hy
  |drop b=>exact fun y hy=>h.en y (List.eraseP_sublist.subset hy)
  |note=>exact h.en
 ·cases w with
  |put x=>
   intro i;show mH (o9 C.pu C.cp x.bE num) i=mH (o9 C.en C.ce x.bE x) i;rw[ug,ug,h.keys]
  |clean b e s=>
   intro i;unfold aQ.ec aQ.MU;dsimp only;split
   ·rename_i z hz
    split
    ·dsimp only;rw[ug,h.keys]
     by_cases ei:i=b
     · subst ei;rw[lK,hz];simp
     · simp[ei]
    ·exact h.keys i
   ·exact h.keys i
  |drop b=>
   intro i;show mH (xf C.pu b) i=mH (xf C.en b) i;rw[As h.m.p,As h.m.e,h.keys]
  |note=>exact h.keys
 ·rw[e1];cases w with
  |put x=>
   intro y hy;rcases sf hy with⟨q1,q2⟩|⟨q1,_⟩
   ·rw[q2];exact h2
   ·exact hpv y q1
  |clean b e s=>
   intro y hy;unfold aQ.ec aQ.MU at hy;dsimp only at hy;split at hy
   ·split at hy<;>exact hpv y hy
   ·exact hpv y hy
  |drop b=>exact fun y hy=>hpv y (List.eraseP_sublist.subset hy)
  |note=>exact hpv
 ·cases w with
  |put x=>exact Kw h.m.p h.pn (fun y hy=>by have:=h1 y hy;omega)
  |clean b e s=>
   unfold aQ.ec aQ.MU;dsimp only;split
   ·split<;>exact h.pn
   ·exact h.pn
  |drop b=>exact(List.eraseP_sublist.map _).nodup h.pn
  |note=>exact h.pn
theorem DD{L:aU}{D:az}{s:Bytes}:(L.append D s).2.1.n=L.n:=by
 unfold aU.append;split<;>(try rfl);split<;>(try rfl);split<;>(try rfl);dsimp only;split<;>rfl
theorem DE{L:aU}{D:az}{s:Bytes}:(L.append D s).2.1.tail=if(L.append D s).1=0 then L.tail+1 else L.tail:=by
 unfold aU.append;split
 ·simp
 ·split
  ·simp
  ·split
   ·simp
   ·dsimp only;split
    · unfold aU.tail;simp only[List.length_append,List.length_singleton];omega
    · rfl
theorem acZ{L:aU}{D:az}{k:Int}:(L.trim D k).2.1.n=L.n:=by
 unfold aU.trim;split<;>(try rfl);split<;>(try rfl);dsimp only;split<;>rfl
theorem MH{L:aU}{D:az}{k:Int}:(L.trim D k).2.1.tail=L.tail:=by
 unfold aU.trim;split
 ·rfl
 ·rename_i hw
  have sS:L.head≤k∧k≤L.tail:=ca.1 (by simpa using hw);split
  ·rfl
  ·dsimp only;split
   ·unfold aU.tail aU.cut aU.put at*;dsimp only;simp only[List.length_drop];omega
   ·rfl
theorem aQ.ok.add{C:aQ}{D:az}(h:C.ok D){r:bI}(hr:r.ok C.bl):(C.add D r).2.1.ok (C.add D r).2.2:=by
 have ha:=aU.Ku h.l (bL r.rc);have ht:=DE (L:=C.l) (D:=D) (s:=bL r.rc);unfold aQ.add;dsimp only;split
 ·rename_i h0
  rw[if_pos h0]at ht;exact h.ec hr ha DD h.pv (by omega)
 ·rename_i h0
  rw[if_neg h0]at ht;exact⟨ha,h.bl,h.n.trans DD.symm,h.n8,⟨h.m.e,h.m.p⟩,h.k,h.en,h.keys,fun x hx=>by rw[ht];exact h.pv x hx,h.pn⟩
theorem aQ.ok.cut{C:aQ}{D:az}(h:C.ok D)(m:Int):(C.cut D m).2.1.ok (C.cut D m).2.2:=
 ⟨aU.VK h.l m,h.bl,h.n.trans acZ.symm,h.n8,⟨h.m.e,h.m.p⟩,h.k,h.en,h.keys,fun x hx=>by show x.2.1<(C.l.trim D m).2.1.tail;rw[MH];exact h.pv x hx,h.pn⟩
theorem aQ.ok.need{C:aQ}{D:az}(h:C.ok D){x:bd}(hx:C.j9=some x):x.ok C.bl∧bM C.en x.bE=some x:=by
 unfold aQ.j9 at hx;obtain⟨y,hy,e⟩:=Option.map_eq_some_iff.1 hx;have hm:=List.mem_of_find?_eq_some hy;have hk:=h.keys y.1;rw[o7.2 ⟨y,hm,rfl⟩,lK]at hk;obtain⟨z,hz⟩:=Option.isSome_iff_exists.1 hk.symm;rw[hz]at e;simp only[Option.getD_some]at e;subst e;obtain⟨b,hb⟩:=jY hz;have:=h.en _ hb;exact⟨this.1,by rw[this.2];exact hz⟩
theorem aQ.xe{C:aQ}{D:az}{r:bI}:(C.add D r).2.1.bl=C.bl∧(C.add D r).2.1.n=C.n:=by
 unfold aQ.add;dsimp only;split
 · exact⟨(aQ.pj _ _ _).2.1,(aQ.pj _ _ _).2.2⟩
 · exact⟨rfl,rfl⟩
theorem aQ.o5{C:aQ}{D:az}:(C.again D).2.1.bl=C.bl∧(C.again D).2.1.n=C.n:=by
 unfold aQ.again;split
 · exact aQ.xe
 · exact⟨rfl,rfl⟩
theorem aQ.ok.again{C:aQ}{D:az}(h:C.ok D):(C.again D).2.1.ok (C.again D).2.2:=by
 unfold aQ.again;split
 · rename_i x hx;exact h.add ⟨(h.need hx).1,h.k⟩
 · exact h
theorem aQ.uN: ∀(f:Nat) (C:aQ) (D:az),(aQ.oS f C D).2.1.bl=C.bl∧(aQ.oS f C D).2.1.n=C.n
 |0,C,D=>⟨rfl,rfl⟩
 |f+1,C,D=>by
  unfold aQ.oS;split
  ·exact⟨rfl,rfl⟩
  ·split
   ·exact aQ.o5
   ·split
    ·exact aQ.o5 (C:=C) (D:=D)
    ·have:=aQ.uN f ((C.again D).2.1.cut (C.again D).2.2 (C.l.head+1)).2.1 ((C.again D).2.1.cut (C.again D).2.2 (C.l.head+1)).2.2;exact⟨this.1.trans aQ.o5.1,this.2.trans aQ.o5.2⟩
theorem aQ.ok.oS: ∀(f:Nat) {C:aQ} {D:az},C.ok D→(aQ.oS f C D).2.1.ok (aQ.oS f C D).2.2
 |0,C,D,h=>h
 |f+1,C,D,h=>by
  unfold aQ.oS;split
  ·exact h
  ·split
   ·exact h.again
   ·split
    · exact h.again.cut _
    · exact aQ.ok.oS f (h.again.cut _)
theorem aQ.ok.eH{C:aQ}{D:az}(h:C.ok D){r:bI}(hr:r.ok C.bl):(C.eH D r).2.1.ok (C.eH D r).2.2:=by
 have hm:(C.make D).2.1.ok (C.make D).2.2:=aQ.ok.oS C.n h;unfold aQ.eH;split
 · exact hm
 · exact hm.add (by rw[show(C.make D).2.1.bl=C.bl from(aQ.uN _ _ _).1];exact hr)
theorem aQ.kl{C:aQ}{D:az}{r:bI}:(C.eH D r).2.1.bl=C.bl∧(C.eH D r).2.1.n=C.n:=by
 unfold aQ.eH;split
 · exact aQ.uN _ _ _
 · exact⟨aQ.xe.1.trans (aQ.uN _ _ _).1,aQ.xe.2.trans (aQ.uN _ _ _).2⟩
theorem Py{α:Type}{f:α→Value}{m:Am α}{seen:List Nat}{x:Int × Value × Nat}(hx:x∈left (oE f m) seen): ∃k v b,x=(k,f v,b)∧(k,v,b)∈m∧ ¬b∈seen:=by
 unfold left at hx;obtain⟨h1,h2⟩:=List.mem_filter.1 hx;obtain⟨y,hy,rfl⟩:=List.mem_map.1 h1;exact⟨y.1,y.2.1,y.2.2,rfl,hy,by simpa using h2⟩
theorem LP{α:Type}{f:α→Value}{m:Am α}{seen:List Nat}(h:left (oE f m) seen=[]): ∀y∈m,y.2.2∈seen:=by
 intro y hy;unfold left at h;rw[List.filter_eq_nil_iff]at h;have:=h (y.1,f y.2.1,y.2.2) (List.mem_map.2 ⟨y,hy,rfl⟩);simpa using this
theorem Vf{α:Type}{m:Am α}{c:Nat}(h:F7 m c){x y:Int × α × Nat}(hx:x∈m)(hy:y∈m)(e:x.2.2=y.2.2):x=y:=by
 have hn:=h.once;clear h
 induction m with
 |nil=>cases hx
 |cons z m ih=>
  simp only[List.map_cons,List.nodup_cons]at hn;rcases List.mem_cons.1 hx with h1|h1<;>rcases List.mem_cons.1 hy with h2|h2
  · rw[h1,h2]
  · exfalso;subst h1;exact hn.1 (List.mem_map.2 ⟨y,h2,e.symm⟩)
  · exfalso;subst h2;exact hn.1 (List.mem_map.2 ⟨x,h1,e⟩)
  · exact ih h1 h2 hn.2
theorem xG{m:Am Int}(hn:(m.map (·.2.1)).Nodup){x:Int × Int × Nat}{h:Int}(hx:x∈m)(e:x.2.1=h):m.find? (fun y=>decide (y.2.1=h))=some x:=by
 induction m with
 |nil=>cases hx
 |cons z m ih=>
  simp only[List.map_cons,List.nodup_cons]at hn;rcases List.mem_cons.1 hx with h1|h1
  ·subst h1;rw[List.find?_cons_of_pos (by simpa using e)]
  ·rw[List.find?_cons_of_neg,ih hn.2 h1];simp only[decide_eq_true_eq];intro ez;exact hn.1 (List.mem_map.2 ⟨x,h1,by rw[e,ez]⟩)
theorem vK{C:aQ}(hn:(C.pu.map (·.2.1)).Nodup){k v:Int}{b:Nat}(hx:(k,v,b)∈C.pu)(e:v=C.l.head):C.j9=some ((bM C.en k).getD .zero):=by
 unfold aQ.j9;rw[xG hn hx e];rfl
theorem E5{C:aQ}{seen:List Nat}{f:Int→Value}(hs: ∀y∈C.pu,y.2.2∈seen→ ¬y.2.1=C.l.head)(h:left (oE f C.pu) seen=[]):C.j9=none:=by
 unfold aQ.j9;rw[List.find?_eq_none.2]
 ·rfl
 ·intro y hy;simpa using hs y hy (LP h y hy)
def fH(k:bT)(i:Int):Int:=if i<0∨4≤i then 0 else k.t.get i
def dZ(l:List bd):List Value:=(l.map bd.cells).flatten
theorem G0(l:List bd)(x:bd):dZ (l++[x])=dZ l++x.cells:=by simp[dZ]
theorem lD{l:List bd}{i:Nat}{x:bd}(h:l[i]? =some x):((dZ l).drop (i*7)).take 7=x.cells:=BU (f:=bd.cells) (k:=7) (fun _=>rfl) l i x h
theorem aQ.ok.lim{C:aQ}{D:az}(h:C.ok D):1≤C.l.head∧C.l.tail≤4611686018427388416∧C.l.l.length≤512∧C.l.n≤512∧C.l.l.length≤C.l.n∧C.n≤512∧D.l.length≤512:=by
 have h1:=h.l.first;have h2:=h.l.l;have h3:=h.l.tail;have h4:=h.l.d.n;have h5:=h.l.head;have h6:=h.n;omega
theorem Jf{C:aQ}{x:bd}(h:x∈C.all): ∃i:Nat,i<C.bl∧bM C.en i=some x:=by
 unfold aQ.all fL at h;obtain⟨i,hi,e⟩:=List.mem_filterMap.1 h;exact⟨i,by simpa using hi,e⟩
theorem jG{C:aQ}{D:az}(h:C.ok D){b:Int}{x:bd}(e:bM C.en b=some x):x.ok C.bl∧x.bE=b:=by
 obtain⟨c,hc⟩:=jY e;exact h.en _ hc
theorem Tv{C:aQ}{D:az}(h:C.ok D){b:Int}{x:bd}(e:bM C.en b=some x):x∈C.all:=by
 obtain⟨h1,h2⟩:=jG h e;have hb:=h1.bE;unfold aQ.all fL;refine List.mem_filterMap.2 ⟨b.toNat,by simp;omega,?_⟩;rw[show((b.toNat:Nat):Int)=b by omega];exact e
theorem y8{C:aQ}: ∀(l:List bd) (s:Int × Bool),(l.foldl (gn C) s=s)∨ ∃x∈l,x.bZ=false∧l.foldl (gn C) s=(x.bE,true)
 | [],s=> .inl rfl
 |y::l,s=>by
  rw[List.foldl_cons]
  have hs:gn C s y=s∨(y.bZ=false∧gn C s y=(y.bE,true)):=by
   unfold gn;split
   ·rename_i h
    simp only[Bool.and_eq_true,Bool.not_eq_true']at h;exact .inr ⟨h.1,rfl⟩
   ·exact .inl rfl
  rcases y8 l (gn C s y)with h|⟨x,hx,h1,h2⟩
  ·rw[h];rcases hs with h3|⟨h3,h4⟩
   ·exact .inl h3
   ·exact .inr ⟨y,by simp,h3,h4⟩
  ·exact .inr ⟨x,by simp[hx],h1,h2⟩
theorem y9{C:aQ}(h:C.spare.2=true): ∃x∈C.all,x.bZ=false∧C.spare=(x.bE,true):=by
 rcases y8 C.all (0,false)with h1|h1
 · unfold aQ.spare at h;rw[h1]at h;cases h
 · exact h1
theorem tK{C:aQ}{D:az}(h:C.ok D)(hs:C.spare.2=true):0≤C.spare.1∧C.spare.1<C.bl:=by
 obtain⟨x,hx,-,e⟩:=y9 hs;obtain⟨i,hi,hg⟩:=Jf hx;rw[e];exact(jG h hg).1.bE
theorem GC{C:aQ}{x:bd}(h1:ER C.bl x.bE=true)(h2:(x.data.length:Int)=8)(h3:ji C x=false):x.ok C.bl∧jg x.ve x.vs C.k.e C.k.s=true:=by
 unfold ji oR ER at*;simp only[Bool.or_eq_false_iff,Bool.not_eq_false',Bool.and_eq_true,ca]at h1 h3;obtain⟨⟨⟨h4,h5,h6⟩,h7⟩,h8⟩:=h3;exact⟨⟨by omega,h5,h6,by omega,h7,jc h8⟩,h4⟩
theorem T4.Wj{t:T4}(ha:gg t.a)(hb:gg t.b)(hc:gg t.c)(hd:gg t.d)(i:Int):gg (t.get i):=by
 unfold T4.get;split<;>(try assumption);split<;>(try assumption);split<;>assumption
theorem qk{a b:Int}(h:gg a)(g:gg b):gg (Max.max a b):=by
 unfold gg at*;omega
theorem CK{k:bT}{n:Nat}{x:bd}(h:k.ok)(hx:x.ok n):(pS k x).ok:=by
 have hm:=qk (T4.Wj h.a h.b h.c h.d x.cl) hx.n;have he:gg x.ve:=⟨by have:=hx.ve;omega,hx.ve.2⟩;have hs:gg x.vs:=⟨by have:=hx.vs;omega,hx.vs.2⟩;unfold pS;split
 · refine⟨he,hs,?_,?_,?_,?_⟩<;>(dsimp only;unfold T4.set;split<;>(try split)<;>(try split)<;>first|exact h.a|exact h.b|exact h.c|exact h.d|exact hm)
 · exact⟨he,hs,h.a,h.b,h.c,h.d⟩
theorem nI{e s:Int}{ns:List Int}(h:mS e s ns=false):gg e∧gg s∧ ∃a b c d,ns=[a,b,c,d]∧gg a∧gg b∧gg c∧gg d:=by
 unfold mS oR at h;simp only[Bool.or_eq_false_iff,Bool.not_eq_false',Bool.and_eq_true,ca,decide_eq_false_iff_not,Decidable.not_not]at h;obtain⟨⟨⟨h1,h2⟩,h3⟩,h4⟩:=h
 match ns,h3 with
 | [a,b,c,d],_=>
  simp only[List.any_cons,List.any_nil,Bool.or_false,Bool.or_eq_false_iff]at h4;exact⟨h1,h2,a,b,c,d,rfl,jc h4.1,jc h4.2.1,jc h4.2.2.1,jc h4.2.2.2⟩
def T4.jS(t u:T4)(i:Nat):T4:=⟨if 0<i then Max.max t.a u.a else t.a,if 1<i then Max.max t.b u.b else t.b,if 2<i then Max.max t.c u.c else t.c,if 3<i then Max.max t.d u.d else t.d⟩
theorem yE{k:bT}{e s a b c d:Int}(h:k.ok)(he:gg e)(hs:gg s)(ha:gg a)(hb:gg b)(hc:gg c)(hd:gg d):(yC k e s ⟨a,b,c,d⟩).ok:=by
 unfold yC T4.max;refine⟨?_,?_,qk h.a ha,qk h.b hb,qk h.c hc,qk h.d hd⟩
 ·dsimp only;split
  · exact he
  · exact h.e
 ·dsimp only;split
  · exact hs
  · exact h.s
def gB(L:aU)(bl:Nat):aQ:=⟨L,bl,L.n,[],0,[],0,⟨0,0,⟨0,0,0,0⟩⟩⟩
def gR(bl:Nat):List (Bytes × Int)→Int→aQ→Option aQ
 | [],_,C=>some C
 |x::l,num,C=>match iq bl x.1 with
  |none=>none
  |some r=>gR bl l (num+1) (C.ec r num)
def bQ(D:az)(first n a b bl:Int):Int × aQ × az:=
 if bl<1∨32<bl∨n<8 then(1,gB (kC D first n.toNat a b) bl.toNat,D)else
 if(bh D first n a b).1≠0 then((bh D first n a b).1,gB (bh D first n a b).2.1 bl.toNat,(bh D first n a b).2.2)else
 match gR bl.toNat (bh D first n a b).2.1.l (bh D first n a b).2.1.head (gB (bh D first n a b).2.1 bl.toNat)with
 |none=>(4,gB (bh D first n a b).2.1 bl.toNat,(bh D first n a b).2.2)
 |some C=>(0,C,(bh D first n a b).2.2)
theorem rF{D:az}{first n a b:Int}(hD:D.ok)(h:(bh D first n a b).1=0):(bh D first n a b).2.1.ok (bh D first n a b).2.2∧(bh D first n a b).2.1.n=n.toNat:=by
 unfold bh at*;split at h
 ·cases h
 ·rename_i ha
  rw[if_neg ha];split at h
  ·rename_i he;exact absurd h he
  ·rename_i he
   rw[if_neg he];split at h
   ·cases h
   ·rename_i ht
    rw[if_neg ht];have hn:((n.toNat:Nat):Int)=n:=by unfold eO at ha;omega
    exact⟨aU.mO (JU hD (by rw[hn];exact ha) (Classical.not_not.1 he) ht) _ _,rfl⟩
theorem R9{n:Nat}{kind:Int}{ts:List Bytes}{ns:List Int}{w:cu}(h:gq n kind ts ns=some w):w.ok n:=by
 unfold gq at h;split at h
 ·split at h
  ·rename_i hc
   simp only[Option.some.injEq]at h;subst h;obtain⟨h1,h2,h3,h4,h5,h6⟩:=hc;unfold ER oR at*;simp only[Bool.and_eq_true,ca]at h1 h2 h3 h4;exact⟨by dsimp only;omega,h2.1,h2.2,h6,h4,jc h5⟩
  ·cases h
 ·split at h
  ·split at h
   ·rename_i hc
    simp only[Option.some.injEq]at h;subst h;obtain⟨h1,h2⟩:=hc;unfold ER oR at*;simp only[Bool.and_eq_true,ca]at h1 h2;exact⟨by omega,h2.1,h2.2⟩
   ·cases h
  ·split at h
   ·rename_i hc
    simp only[Option.some.injEq]at h;subst h;obtain⟨_,_,_,h1⟩:=hc;unfold ER at h1;rw[ca]at h1;show 0≤ns.getD 0 0∧ns.getD 0 0<n;omega
   ·split at h
    ·simp only[Option.some.injEq]at h;subst h;trivial
    ·cases h
theorem Rq{n:Nat}{s:Bytes}{r:bI}(h:iq n s=some r):r.ok n:=by
 unfold iq at h;split at h
 ·cases h
 ·rename_i hb
  split at h
  ·cases h
  ·rename_i w hw
   simp only[Option.some.injEq]at h;subst h;refine⟨R9 hw,?_⟩;have B5:uk s=false:=by simpa using hb
   unfold uk at B5;simp only[Bool.or_eq_false_iff,decide_eq_false_iff_not]at B5;obtain⟨⟨_,h6⟩,ho⟩:=B5;generalize hl:(bX s).1.aH.drop ((bX s).1.aH.length- 6)=l at*;have Zo:l.length=6:=by rw[←hl,List.length_drop];omega
   match l,Zo with
   | [a,b,c,d,e,f],_=>
    simp only[List.any_cons,List.any_nil,Bool.or_false,Bool.or_eq_false_iff]at ho;exact⟨jc ho.1,jc ho.2.1,jc ho.2.2.1,jc ho.2.2.2.1,jc ho.2.2.2.2.1,jc ho.2.2.2.2.2⟩
theorem KF{L:aU}{D:az}{bl:Nat}(h:L.ok D)(hb:1≤bl∧bl≤32)(hn:8≤L.n):(gB L bl).ok D:=
 ⟨h,hb,rfl,hn,⟨wM,wM⟩,(by have z:gg 0:=⟨by decide,by decide⟩;exact⟨z,z,z,z,z,z⟩),(fun x hx=>(by cases hx)),(fun _=>rfl),(fun x hx=>(by cases hx)),(by simp[gB])⟩
structure F5(L:aU)(bl:Nat)(D:az)(i:Nat)(C:aQ):Prop where
 ok:C.ok D
 l:C.l=L
 b:C.bl=bl
 pu: ∀x∈C.pu,x.2.1<L.head+i
 eq:gR bl L.l L.head (gB L bl)=gR bl (L.l.drop i) (L.head+i) C
theorem F5.init{L:aU}{bl:Nat}{D:az}(h:L.ok D)(hb:1≤bl∧bl≤32)(hn:8≤L.n):F5 L bl D 0 (gB L bl):=
 ⟨KF h hb hn,rfl,rfl,fun x hx=>(by cases hx),by simp⟩
theorem Tf{C:aQ}{r:bI}{num:Int}(h: ∀x∈C.pu,x.2.1<num): ∀x∈(C.ec r num).pu,x.2.1<num+1:=by
 obtain⟨w,k⟩:=r;unfold aQ.ec aQ.MU;cases w with
 |put x=>
  intro y hy;rcases sf hy with⟨q1,q2⟩|⟨q1,_⟩
  ·omega
  ·have:=h y q1;omega
 |clean b e s=>
  dsimp only;intro y hy;split at hy
  ·split at hy
   · have:=h y hy;omega
   · have:=h y hy;omega
  ·have:=h y hy;omega
 |drop b=>intro y hy;have:=h y (List.eraseP_sublist.subset hy);omega
 |note=>intro y hy;have:=h y hy;omega
theorem F5.step{L:aU}{bl:Nat}{D:az}{i:Nat}{C:aQ}(h:F5 L bl D i C){x:Bytes × Int}(hx:L.l[i]? =some x){r:bI}(hr:iq bl x.1=some r):F5 L bl D (i+1) (C.ec r (L.head+i)):=by
 have hi:i<L.l.length:=(List.getElem?_eq_some_iff.1 hx).1;have hrk:=Rq hr;have hL:L.ok D:=by have:=h.ok.l;rw[h.l]at this;exact this
 have cq:=h.ok.ec (r:=r) (by rw[h.b];exact hrk) hL (by rw[h.l]) (num:=L.head+i) h.pu (by unfold aU.tail;omega);have he:({C with l:=L}:aQ)=C:=by rw[←h.l]
 rw[he]at cq;obtain⟨e1,e2,e3⟩:=aQ.pj C r (L.head+i);refine⟨cq,by rw[e1];exact h.l,by rw[e2];exact h.b,?_,?_⟩
 ·have:=Tf (r:=r) h.pu;rw[show L.head+((i+1:Nat):Int)=L.head+i+1 by omega];exact this
 ·rw[h.eq,List.drop_eq_getElem_cons hi];have hg:L.l[i]=x:=(List.getElem?_eq_some_iff.1 hx).2;rw[hg];unfold gR;rw[hr];dsimp only;rw[show L.head+((i+1:Nat):Int)=L.head+i+1 by omega];cases L.l.drop (i+1)<;>rfl
theorem F5.fail{L:aU}{bl:Nat}{D:az}{i:Nat}{C:aQ}(h:F5 L bl D i C){x:Bytes × Int}(hx:L.l[i]? =some x)(hr:iq bl x.1=none):gR bl L.l L.head (gB L bl)=none:=by
 have hi:i<L.l.length:=(List.getElem?_eq_some_iff.1 hx).1;rw[h.eq,List.drop_eq_getElem_cons hi];have hg:L.l[i]=x:=(List.getElem?_eq_some_iff.1 hx).2;rw[hg];unfold gR;rw[hr]
theorem F5.arK{L:aU}{bl:Nat}{D:az}{C:aQ}(h:F5 L bl D L.l.length C):gR bl L.l L.head (gB L bl)=some C:=by
 rw[h.eq,List.drop_length];rfl
theorem qY: ∀(l:List (Bytes × Int)) {L:aU} {bl:Nat} {D:az} {i:Nat} {C C':aQ},F5 L bl D i C→L.l.drop i=l→gR bl l (L.head+i) C=some C'→F5 L bl D L.l.length C'
 | [],L,bl,D,i,C,C',h,hl,hc=>by
  simp only[gR,Option.some.injEq]at hc;subst hc;have hi:L.l.length≤i:=List.drop_eq_nil_iff.1 hl;have e:gR bl (L.l.drop i) (L.head+i) C=gR bl (L.l.drop L.l.length) (L.head+L.l.length) C:=by rw[hl,List.drop_length];rfl
  rcases Nat.lt_or_ge L.l.length i with EH|hge
  ·refine⟨h.ok,h.l,h.b,fun x hx=>?_,by rw[h.eq,e]⟩;have:=h.ok.pv x hx;rw[h.l]at this;exact this
  ·have:i=L.l.length:=by omega
   subst this;exact h
 |x::l,L,bl,D,i,C,C',h,hl,hc=>by
  unfold gR at hc;split at hc
  ·cases hc
  ·rename_i r hr
   have hx:L.l[i]? =some x:=by
    have:(L.l.drop i)[0]? =some x:=by rw[hl];rfl
    rw[List.getElem?_drop]at this;simpa using this
   have hs:=h.step hx hr;refine qY l hs ?_ (by rw[show L.head+((i+1:Nat):Int)=L.head+i+1 by omega];exact hc)
   rw[show i+1=1+i by omega,Nat.add_comm,←List.drop_drop,hl];rfl
theorem KH{D:az}{first n a b bl:Int}(hD:D.ok)(h:(bQ D first n a b bl).1=0):(bQ D first n a b bl).2.1.ok (bQ D first n a b bl).2.2:=by
 unfold bQ at*;split at h
 ·cases h
 ·rename_i hb
  rw[if_neg hb];split at h
  ·rename_i ho;exact absurd h ho
  ·rename_i ho
   rw[if_neg ho];have ho2:(bh D first n a b).1=0:=Classical.not_not.1 ho;obtain⟨h1,h2⟩:=rF hD ho2;split at h
   ·cases h
   ·rename_i C hC
    have hi:=F5.init (bl:=bl.toNat) h1 (by omega) (by rw[h2];omega);exact(qY _ hi (List.drop_zero ..) (by simpa using hC)).ok
end Go.Sl