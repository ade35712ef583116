/- A part of the proof. -/
import Derived.Test.YtlignadmmopdmaaGreatGG
import Derived.Test.YtlignadmmopdmaaGreatGC
import Derived.Test.YtlignadmmopdmaaGreatGI
import Derived.OpenShut
import Derived.DeepKeys
import Derived.Test.YtlignadmmopdmaaGreatGE
import Derived.Scope
set_option linter.unusedVariables false
set_option linter.unusedSimpArgs false
set_option linter.constructorNameAsVariable false
namespace Go.Sl
structure aM where
 kind:Int
 ah:Int
 seq:Int
 n:Int
 block:Int
 eU:Int
 e:Int
 t0:Int
 t1:Int
 t2:Int
 t3:Int
 data:Bytes
 row:Bytes
 deriving DecidableEq
def iV(n:Int):Value:= .int .i64 n
def sV(t:Bytes):Value:= .string ⟨t.toArray⟩
def aM.cells(m:aM):List Value:=[.int .i64 m.kind,.int .i64 m.ah,.int .i64 m.seq,.int .i64 m.n,.int .i64 m.block,.int .i64 m.eU,.int .i64 m.e,.int .i64 m.t0,.int .i64 m.t1,.int .i64 m.t2,.int .i64 m.t3,.string ⟨m.data.toArray⟩,.string ⟨m.row.toArray⟩]
def aM.zero:aM:=⟨0,0,0,0,0,0,0,0,0,0,0,[],[]⟩
def aM.tn(m:aM):Nat→Int
 |0=>m.t0
 |1=>m.t1
 |2=>m.t2
 |_=>m.t3
def aI(n lo hi:Int):Bool:=decide (lo≤n)&&decide (n≤hi)
def aM.may(m:aM):Bool:=aI m.t0 0 4611686018427387904&&aI m.t1 0 4611686018427387904&&aI m.t2 0 4611686018427387904&&aI m.t3 0 4611686018427387904&&
 decide ((m.data.length:Int)≤40)&&decide ((m.row.length:Int)≤10)&&aI m.kind 1 15&&aI m.ah 0 4611686018427387904&&aI m.seq 0 4611686018427387904&&aI m.n (-4611686018427387904) 4611686018427387904&&aI m.block (-1) 31&&aI m.eU (-1) 3&&aI m.e 0 31
structure aM.ok(m:aM):Prop where
 kind:1≤m.kind∧m.kind≤15
 ah:0≤m.ah∧m.ah≤4611686018427387904
 seq:0≤m.seq∧m.seq≤4611686018427387904
 n: -4611686018427387904≤m.n∧m.n≤4611686018427387904
 block: -1≤m.block∧m.block≤31
 eU: -1≤m.eU∧m.eU≤3
 t0:0≤m.t0∧m.t0≤4611686018427387904
 t1:0≤m.t1∧m.t1≤4611686018427387904
 t2:0≤m.t2∧m.t2≤4611686018427387904
 t3:0≤m.t3∧m.t3≤4611686018427387904
 data:m.data.length≤40
theorem aM.W2{m:aM}(h:m.may=true):m.ok:=by
 unfold aM.may aI at h;simp only[Bool.and_eq_true,decide_eq_true_eq]at h;exact⟨by omega,by omega,by omega,by omega,by omega,by omega,by omega,by omega,by omega,by omega,by omega⟩
abbrev Wi:=Int × Int × Int
def uY(x:Wi):Bool:=aI x.1 x.2.1 x.2.2
def VS(l:List Wi):List Value:=(l.map fun x=>[Value.int .i64 x.1,.int .i64 x.2.1,.int .i64 x.2.2]).flatten
theorem F3: ∀(l:List Wi) (k:Nat) (x:Wi),l[k]? =some x→((VS l).drop (k*3)).take 3=[.int .i64 x.1,.int .i64 x.2.1,.int .i64 x.2.2]
 | [],k,x,h=>by simp at h
 |z::l,0,x,h=>by simp at h;subst h;simp[VS]
 |z::l,k+1,x,h=>by
  have:=F3 l k x (by simpa using h);rw[show(k+1)*3=3+k*3 by omega,←List.drop_drop];simpa[VS]using this
theorem vO{C:a8}{D:az}{s:Bytes}:(C.put D s).2.2.l.length=D.l.length:=by
 unfold a8.put;split
 ·rfl
 ·split
  ·rfl
  ·dsimp only;split
   ·rw[kq]
   ·split
    · rw[fA,kq]
    · rw[fA,kq]
theorem UB{m:aM}(h:aI m.t0 0 4611686018427387904=true∧aI m.t1 0 4611686018427387904=true∧aI m.t2 0 4611686018427387904=true∧aI m.t3 0 4611686018427387904=true):
  m.may=(decide ((m.data.length:Int)≤40)&&decide ((m.row.length:Int)≤10)&&([(m.kind,1,15),(m.ah,0,4611686018427387904),(m.seq,0,4611686018427387904),(m.n,-4611686018427387904,4611686018427387904),(m.block,-1,31),(m.eU,-1,3),(m.e,0,31)]:List Wi).all uY):=by
 obtain⟨h0,h1,h2,h3⟩:=h;unfold aM.may;rw[h0,h1,h2,h3];simp only[List.all_cons,List.all_nil,uY,Bool.and_true,Bool.true_and,Bool.and_assoc]
theorem UC{m:aM}{k:Nat}(hk:k<4)(h:aI (m.tn k) 0 4611686018427387904=false):m.may=false:=by
 unfold aM.may
 match k,hk with
 |0,_=>rw[show aI m.t0 0 4611686018427387904=false from h];rfl
 |1,_=>rw[show aI m.t1 0 4611686018427387904=false from h];simp
 |2,_=>rw[show aI m.t2 0 4611686018427387904=false from h];simp
 |3,_=>rw[show aI m.t3 0 4611686018427387904=false from h];simp
theorem qj(m:aM): ∀u∈m.cells,u.oneCell'=true:=by
 intro u hu;simp only[aM.cells,List.mem_cons,List.not_mem_nil,or_false]at hu;rcases hu with rfl|rfl|rfl|rfl|rfl|rfl|rfl|rfl|rfl|rfl|rfl|rfl|rfl<;>rfl
theorem gK{α:Type}{l:List α}{i:Nat}{d:α}(h:i<l.length):l[i]? =some (l.getD i d):=by
 rw[List.getElem?_eq_getElem h,List.getD_eq_getElem?_getD,List.getElem?_eq_getElem h];rfl
theorem ca{n lo hi:Int}:aI n lo hi=true↔lo≤n∧n≤hi:=by unfold aI;simp
end Go.Sl
/- From the readings of arguments to messages and xd. -/
namespace Go.Sl
open Go.ChangeShapes Go.WideShapes Go.ChangeAt Go.RowKit Go.Deep
theorem BU{α:Type}{f:α→List Value}{k:Nat}(hf: ∀x,(f x).length=k): ∀(l:List α) (i:Nat) (x:α),l[i]? =some x→((((l.map f).flatten).drop (i*k)).take k)=f x
 | [],i,x,h=>by simp at h
 |z::l,0,x,h=>by
  simp at h;subst h;simp only[List.map_cons,List.flatten_cons,Nat.zero_mul,List.drop_zero];rw[List.take_append_of_le_length (by rw[hf];exact Nat.le_refl _),List.take_of_length_le (by rw[hf];exact Nat.le_refl _)]
 |z::l,i+1,x,h=>by
  have:=BU hf l i x (by simpa using h);rw[show(i+1)*k=k+i*k by rw[Nat.succ_mul];omega,←List.drop_drop];simp only[List.map_cons,List.flatten_cons];have e:(f z++(List.map f l).flatten).drop k=(List.map f l).flatten:=List.drop_left' (hf z);rw[e];exact this
def px(P:Program)(fs:Array Field)(l:List (Nat × Nat)):Bool:=(fs.toList.zip l).all fun x=>Nat.beq x.1.offset x.2.1&&Nat.beq (P.cellsOf x.1.type) x.2.2
theorem adR{P:Program}{fs:Array Field}{l:List (Nat × Nat)}(h:px P fs l=true)(i:Nat)(f:Field)(q:Nat × Nat)(hf:fs[i]? =some f)(hq:l[i]? =some q):f.offset=q.1∧P.cellsOf f.type=q.2:=by
 have hm:(f,q)∈fs.toList.zip l:=by
  have:(fs.toList.zip l)[i]? =some (f,q):=by rw[List.getElem?_zip_eq_some];exact⟨by simpa using hf,hq⟩
  exact List.mem_of_getElem? this
 have:=List.all_eq_true.1 h _ hm;simp only[Bool.and_eq_true]at this;exact⟨Nat.eq_of_beq_eq_true this.1,Nat.eq_of_beq_eq_true this.2⟩
section
variable {H : Type} {enc : TypeId × Value → H} {P : Program} {W : World} {base : Nat} {spare : Nat → Bool} {held : Bool}
theorem yK{e n:Nat}{cs:List Value}{y:DataW H × List MemPlace}(he:P.underlying e=some .string)(h:DataW.trod enc P W base spare held n e cs=some y): ∃b:Bytes,cs=[.string ⟨b.toArray⟩]:=by
 obtain⟨s,hs,_⟩:=DataW.trod_string he h;exact⟨s.data.toList,by rw[hs,←VD]⟩
theorem yJ{fs:Array Field}{l:List (Nat × Nat)}{cs:List Value}{xs:List (DataW H × List MemPlace)}{n:Nat}(TO:px P fs l=true)
  (hf: ∀(i:Nat) (f:Field),fs[i]? =some f→DataW.trod enc P W base spare held n f.type ((cs.drop f.offset).take (P.cellsOf f.type))=xs[i]?) (hx:xs.length=fs.size)
  (i:Nat) (f:Field) (o k:Nat) (h1:fs[i]? =some f) (h2:l[i]? =some (o,k)): ∃y,DataW.trod enc P W base spare held n f.type ((cs.drop o).take k)=some y:=by
 obtain⟨a,b⟩:=adR TO i f (o,k) h1 h2;have:=hf i f h1;rw[a,b]at this
 have hi:i<fs.size:=by
  rcases Nat.lt_or_ge i fs.size with h|h
  · exact h
  · rw[Array.getElem?_eq_none h]at h1;cases h1
 exact⟨_,this.trans (List.getElem?_eq_getElem (by omega))⟩
abbrev ahV:List (Nat × Nat):=[(0,1),(1,1),(2,1),(3,1),(4,1),(5,1),(6,1),(7,4),(11,1),(12,1)]
theorem Q6{e n:Nat}{cs:List Value}{y:DataW H × List MemPlace}{f0 f1 f2 f3 f4 f5 f6 f7 f8 f9:Field}{g:TypeId}(he:P.underlying e=some (.struct #[f0,f1,f2,f3,f4,f5,f6,f7,f8,f9]))(TO:px P #[f0,f1,f2,f3,f4,f5,f6,f7,f8,f9] ahV=true)(hC:P.cellsOf e=13)
  (h0:P.underlying f0.type=some (.int .i64)) (h1:P.underlying f1.type=some (.int .i64)) (h2:P.underlying f2.type=some (.int .i64)) (h3:P.underlying f3.type=some (.int .i64)) (h4:P.underlying f4.type=some (.int .i64)) (h5:P.underlying f5.type=some (.int .i64)) (h6:P.underlying f6.type=some (.int .i64))
  (h7:P.underlying f7.type=some (.array 4 g)) (hg:P.underlying g=some (.int .i64)) (hCg:P.cellsOf g=1) (h8:P.underlying f8.type=some .string) (h9:P.underlying f9.type=some .string)
  (h:DataW.trod enc P W base spare held n e cs=some y): ∃m:aM,cs=m.cells:=by
 obtain⟨xs,n',_,_,hl,yb,hf⟩:=DataW.trod_struct he h;rw[hC]at hl
 match cs,hl with
 | [c0,c1,c2,c3,c4,c5,c6,c7,c8,c9,c10,c11,c12],_=>
  have F:=yJ TO hf (by simpa using yb);obtain⟨_,q0⟩:=F 0 f0 0 1 rfl rfl;obtain⟨_,q1⟩:=F 1 f1 1 1 rfl rfl;obtain⟨_,q2⟩:=F 2 f2 2 1 rfl rfl;obtain⟨_,q3⟩:=F 3 f3 3 1 rfl rfl;obtain⟨_,q4⟩:=F 4 f4 4 1 rfl rfl;obtain⟨_,q5⟩:=F 5 f5 5 1 rfl rfl;obtain⟨_,q6⟩:=F 6 f6 6 1 rfl rfl;obtain⟨_,q7⟩:=F 7 f7 7 4 rfl rfl;obtain⟨_,q8⟩:=F 8 f8 11 1 rfl rfl;obtain⟨_,q9⟩:=F 9 f9 12 1 rfl rfl;obtain⟨n0,e0,-⟩:=di h0 q0;obtain⟨n1,e1,-⟩:=di h1 q1;obtain⟨n2,e2,-⟩:=di h2 q2;obtain⟨n3,e3,-⟩:=di h3 q3;obtain⟨n4,e4,-⟩:=di h4 q4;obtain⟨n5,e5,-⟩:=di h5 q5;obtain⟨n6,e6,-⟩:=di h6 q6;obtain⟨s8,e8⟩:=yK h8 q8;obtain⟨s9,e9⟩:=yK h9 q9;obtain⟨zs,m,_,_,_,hzl,hz⟩:=DataW.trod_array h7 q7;rw[hCg]at hz;have Z: ∀k,k<4→ ∃u,zs[k]? =some u:=fun k hk=>⟨_,List.getElem?_eq_getElem (by omega)⟩
  obtain⟨u0,hu0⟩:=Z 0 (by omega);obtain⟨u1,hu1⟩:=Z 1 (by omega);obtain⟨u2,M8⟩:=Z 2 (by omega);obtain⟨u3,hu3⟩:=Z 3 (by omega);obtain⟨t0,a0,-⟩:=di hg ((hz 0 (by omega)).trans hu0);obtain⟨t1,a1,-⟩:=di hg ((hz 1 (by omega)).trans hu1);obtain⟨t2,a2,-⟩:=di hg ((hz 2 (by omega)).trans M8);obtain⟨t3,a3,-⟩:=di hg ((hz 3 (by omega)).trans hu3);simp at e0 e1 e2 e3 e4 e5 e6 e8 e9 a0 a1 a2 a3;subst e0 e1 e2 e3 e4 e5 e6 e8 e9 a0 a1 a2 a3;exact⟨⟨n0,n1,n2,n3,n4,n5,n6,t0,t1,t2,t3,s8,s9⟩,rfl⟩
end
end Go.Sl
namespace Go.Sl
theorem cE.src [Env]{P:Program}{L:List ax}{size m:Nat}{v:Value}{vs:List Value}(h:cE L v m vs)(hl:vs.length=m*size):Src P L size v m vs:=by
 rcases h with⟨rfl,rfl,rfl⟩|⟨a,c,rfl,h3,h2⟩
 ·exact C3
 ·refine⟨hl,fun w hh=>⟨by simp[Builtin.lenOf],?_⟩⟩;refine run_firstCells_some w size m _ m c vs hl (fun j v hj=>?_)
  have MZ:j<vs.length:=by
   rcases Nat.lt_or_ge j vs.length with h|h
   · exact h
   · rw[List.getElem?_eq_none h]at hj;cases hj
  have hm:m≠0:=fun h0=>by rw[h0,Nat.zero_mul]at hl;omega
  have hs:=h3 hm;have:=h2 w hh j MZ;rw[List.getElem?_eq_getElem MZ]at hj;cases hj;cases a;simp at hs;subst hs;rw[add_lit];exact this
theorem s5{kv:Kv}{c:Nat}{k e:Int}{v:Value}:ij (oT kv c k v) e=if e=k then some v else ij kv e:=by
 unfold oT ij
 by_cases h:kv.any (fun x=>decide (x.1=k))=true
 ·rw[if_pos h];unfold EZ
  induction kv with
  |nil=>simp at h
  |cons x kv ih=>
   simp only[List.map_cons,List.find?_cons]
   by_cases hx:x.1=k
   ·rw[if_pos hx]
    by_cases Wt:e=k
    ·subst Wt;simp
    ·have h1:decide (k=e)=false:=by simp;omega
     have h2:decide (x.1=e)=false:=by simp;omega
     simp only[h1,h2,if_neg Wt]
     by_cases h3:kv.any (fun x=>decide (x.1=k))=true
     ·have:=ih h3;rw[if_neg Wt]at this;exact this
     ·have e1:(kv.map fun x=>if x.1=k then(k,v,x.2.2)else x)=kv:=by
       have: ∀x∈kv,(if x.1=k then(k,v,x.2.2)else x)=x:=fun y hy=>by
        rw[if_neg];intro hyk;exact h3 (List.any_eq_true.2 ⟨y,hy,by simp[hyk]⟩)
       exact(List.map_congr_left this).trans (List.map_id kv)
      rw[e1]
   ·rw[if_neg hx];have h3:kv.any (fun x=>decide (x.1=k))=true:=by simpa[hx]using h
    by_cases hxe:x.1=e
    ·have Wt:e≠k:=by omega
     simp[hxe,Wt]
    ·have h2:decide (x.1=e)=false:=by simp[hxe]
     simp only[h2];exact ih h3
 ·rw[if_neg h,List.find?_append]
  by_cases Wt:e=k
  ·subst Wt
   have:kv.find? (fun x=>decide (x.1=e))=none:=by
    rw[List.find?_eq_none];intro x hx hxe;exact h (List.any_eq_true.2 ⟨x,hx,hxe⟩)
   simp[this]
  ·have h1:decide (k=e)=false:=by simp;omega
   rw[if_neg Wt];simp[List.find?_cons,h1]
theorem FY{kv:Kv}{c:Nat}{k:Int}{v:Value}(h:uniq kv):uniq (oT kv c k v):=by
 unfold oT
 by_cases hq:kv.any (fun x=>decide (x.1=k))=true
 ·rw[if_pos hq];unfold uniq EZ at*;rw[List.map_map]
  have:((fun x:Int × Value × Nat=>x.1)∘fun x=>if x.1=k then(k,v,x.2.2)else x)=fun x=>x.1:=by
   funext x
   simp only[Function.comp];split
   · rename_i h;exact h.symm
   · rfl
  rw[this];exact h
 ·rw[if_neg hq];unfold uniq at*;rw[List.map_append,List.map_cons,List.map_nil];refine List.nodup_append.2 ⟨h,by simp,fun a ha b hb=>?_⟩;simp at hb;subst hb;rintro rfl;obtain⟨x,hx,hxk⟩:=List.mem_map.1 ha;exact hq (List.any_eq_true.2 ⟨x,hx,by simp[hxk]⟩)
def kY(ks:dq):dq:=ks.map fun x=>(qX .i64 x.1 1,x.2)
def jD(ks:dq)(k:Nat):dq:=kY (ks.take k)++ks.drop k
theorem AY(ks:dq):jD ks ks.length=kY ks:=by simp[jD]
theorem lG(ks:dq)(k:Nat):(jD ks k).length=ks.length:=by simp[jD,kY];omega
theorem qi{ks:dq}{k:Nat}{x:Int × Int}(h:ks[k]? =some x):(jD ks k)[k]? =some x:=by
 have hk:k<ks.length:=(List.getElem?_eq_some_iff.1 h).1;unfold jD kY;rw[List.getElem?_append_right (by simp;omega),List.getElem?_drop];simp only[List.length_map,List.length_take];rw[show k+(k-min k ks.length)=k by omega];exact h
theorem AZ{ks:dq}{k:Nat}{x:Int × Int}(h:ks[k]? =some x):(jD ks k).set k (qX .i64 x.1 1,x.2)=jD ks (k+1):=by
 have hk:k<ks.length:=(List.getElem?_eq_some_iff.1 h).1;unfold jD kY;rw[List.set_append_right _ _ (by simp;omega)];simp only[List.length_map,List.length_take];rw[show k-min k ks.length=0 by omega,List.drop_eq_getElem_cons hk];have hx:ks[k]=x:=by rw[List.getElem?_eq_getElem hk]at h;exact Option.some.inj h
 rw[List.set_cons_zero,List.take_add_one,h];simp
theorem yj{ks:dq}{k:Nat}{x:Int × Int}{h:Int}(hk:ks[k]? =some x):(dS ks).set (k*2) (.int .i64 h)=dS (ks.set k (h,x.2)):=by
 induction ks generalizing k with
 |nil=>simp at hk
 |cons z ks ih=>
  cases k with
  |zero=>
   simp at hk;subst hk;simp[dS]
  |succ k=>
   have:=ih (k:=k) (by simpa using hk);simp only[dS,List.map_cons,List.flatten_cons,List.set_cons_succ,List.cons_append,List.nil_append]at this ⊢;rw[show(k+1)*2=k*2+1+1 by omega,List.set_cons_succ,List.set_cons_succ,this]
theorem vF{ks:dq}{k:Nat}{x:Int × Int}(hk:ks[k]? =some x):(dS ks)[k*2]? =some (.int .i64 x.1):=by
 induction ks generalizing k with
 |nil=>simp at hk
 |cons z ks ih=>
  cases k with
  |zero=>simp at hk;subst hk;simp[dS]
  |succ k=>
   have:=ih (k:=k) (by simpa using hk);rw[show(k+1)*2=k*2+1+1 by omega];simpa[dS]using this
theorem eD(ks:dq):(dS ks).length=ks.length*2:=by
 induction ks with
 |nil=>rfl
 |cons z ks ih=>
  simp only[dS,List.map_cons,List.flatten_cons,List.length_append,List.length_cons,List.length_nil]at ih ⊢;omega
theorem yi(ks:dq): ∀u∈dS ks,u.oneCell'=true:=by
 intro u hu;unfold dS at hu;obtain⟨l,hl,ZM⟩:=List.mem_flatten.1 hu;obtain⟨x,_,rfl⟩:=List.mem_map.1 hl;simp only[List.mem_cons,List.not_mem_nil,or_false]at ZM;rcases ZM with rfl|rfl<;>rfl
theorem Bo{s:Sv}{m k:Nat}{xs ys:List Value}(h:bW s m k xs)(hl:ys.length=xs.length):bW s m k ys:=by
 cases s with
 |none=>
  obtain⟨h1,h2⟩:=h;subst h2;exact⟨h1,List.eq_nil_of_length_eq_zero hl⟩
 |some p=>
  obtain⟨h1,h2,h3,h4⟩:=h;refine⟨h1,h2,hl.trans h3,?_⟩;rw[List.length_append]at h4 ⊢;rw[hl];exact h4
theorem qh(ks:dq):(kY ks).length=ks.length:=by simp[kY]
structure I8(D Dp:az)(n:Nat)(o:Int)(p:Bytes):Prop where
 live:Live Dp n
 ok:D.ok
 l:D.l=Dp.l
 dead:D.dead=true
 es:D.es=[]∨ ∃c,D.es=[(o,p,c)]
 o:0≤o∧o<n
theorem Sd{D:az}{i:Int}{bs:Bytes}(h:(D.write i bs).1=30):(D.write i bs).2.dead=true:=by
 unfold az.write at h ⊢
 by_cases c1:D.has i≠0
 ·rw[if_pos c1]at h ⊢;unfold az.has at h
  by_cases c2:D.dead=true
  ·exact c2
  ·rw[if_neg c2]at h;split at h<;>cases h
 ·rw[if_neg c1]at h ⊢
  by_cases c2:(144:Int)<bs.length
  ·rw[if_pos c2]at h;cases h
  ·rw[if_neg c2]at h ⊢
   by_cases c3:D.act.1≠0
   ·rw[if_pos c3]at h ⊢;unfold az.act at h ⊢
    by_cases c4:D.dA=0
    · rw[if_pos c4]
    · rw[if_neg c4]at h;cases h
   ·rw[if_neg c3]at h;cases h
theorem GD{D:az}(h: ¬D.aJ.1=0):D.aJ.2.dead=true:=by
 unfold az.aJ at h ⊢
 by_cases c1:D.dead=true
 ·rw[if_pos c1];exact c1
 ·rw[if_neg c1]at h ⊢
  by_cases c3:D.act.1≠0
  ·rw[if_pos c3];unfold az.act at c3 ⊢
   by_cases c4:D.dA=0
   · rw[if_pos c4]
   · rw[if_neg c4]at c3;exact absurd rfl c3
  ·rw[if_neg c3]at h;exact absurd rfl h
theorem ab0{C:a8}{D D':az}{s:Bytes}(h:C.put D s=(30,C,D')):D'.dead=true:=by
 unfold a8.put at h
 by_cases c1:(100:Int)<s.length
 ·rw[if_pos c1]at h;simp at h
 rw[if_neg c1]at h
 by_cases c2:C.gen=4611686018427387904
 ·rw[if_pos c2]at h;simp at h
 rw[if_neg c2]at h;dsimp only at h
 by_cases c3:(D.write C.other (cG (IntKind.i64.wrap (C.gen+1)) s)).1≠0
 ·rw[if_pos c3]at h;simp only[Prod.mk.injEq,true_and]at h;rw[←h.2];exact Sd h.1
 rw[if_neg c3]at h
 by_cases c4:(D.write C.other (cG (IntKind.i64.wrap (C.gen+1)) s)).2.aJ.1≠0
 ·rw[if_pos c4]at h;simp only[Prod.mk.injEq,true_and]at h;rw[←h.2];exact GD c4
 ·rw[if_neg c4]at h;simp at h
theorem Ri{D:az}{n:Nat}{a b:Int}{s:Bytes}(hL:Live D n)(hC:(aF D a b).ok n)(hs:s.length≤100)(hg:(aF D a b).gen<4611686018427387904):
  (∃D',(aF D a b).put D s=(0,(aF D a b).next s,D')∧Live D' n∧aF D' a b=(aF D a b).next s∧ ∀j:Int,0≤j→j<n→j≠(aF D a b).other→D'.sec j=D.sec j)∨
  (∃D',(aF D a b).put D s=(30,aF D a b,D')∧I8 D' D n (aF D a b).other (pad (cG ((aF D a b).gen+1) s))):=by
 have EB:=hC.gen;have hp:=Vj hL hC hs hg
 by_cases h0:((aF D a b).put D s).1=0
 ·obtain⟨D',h1,h2,h3,h4⟩:=Fs hp h0;exact .inl ⟨D',h1,h2,rJ hC hs hg (by rw[h3];exact qu (by rw[dy];omega)) h4,h4⟩
 ·obtain⟨D',h1,h2,h3,h4⟩:=Fq hp h0;exact .inr ⟨D',h1,hL,h2,h3,ab0 h1,h4,yL hC⟩
theorem xR{D Dp:az}{n:Nat}{o:Int}{p:Bytes}(h:I8 D Dp n o p){ks:dq}(hk: ∀x∈ks,x.1≠2):
  Live (D.bD ks) n∧(∀j:Int,0≤j→j<n→j≠o→(D.bD ks).sec j=Dp.sec j)∧((D.bD ks).sec o=Dp.sec o∨(D.bD ks).sec o=p):=by
 have hU:=sv h.ok ks;have hlen:D.l.length=n:=by rw[h.l];exact h.live.len
 rw[hlen]at hU;have hLc:Live (D.bD ks) n:=⟨hU.ok,hU.len,hU.live,rfl⟩;refine⟨hLc,fun j h0 h1 hj=>?_,?_⟩
 ·rcases h.es with he|⟨c,he⟩
  ·exact xw ks h.live h.l he j
  ·rw[wF h.ok h0,h.l,vU h.live.es];intro hm;have:j∈D.es.map (·.1):=(List.mergeSort_perm _ _).mem_iff.1 hm;rw[he]at this;simp at this;exact hj this
 ·rcases h.es with he|⟨c,he⟩
  ·exact .inl (xw ks h.live h.l he o)
  ·have hp:D.pending=[o]:=by unfold az.pending;rw[he];simp
   have LF:D.sec o=p:=by unfold az.sec;rw[he];simp[ix]
   have M6:=h.o;rw[vU hLc.es,vU h.live.es,←h.l];unfold az.bD;dsimp only;rw[hp];cases ks with
   |nil=>left;rw[kz]
   |cons x ks=>
    unfold fb;rw[gD,List.getElem?_set_self (by omega),Option.getD_some,LF];unfold pI;split
    ·exact .inr rfl
    ·rw[if_neg (hk x (List.mem_cons_self ..))]
     left
     have:o.toNat<D.l.length:=by omega
     simp[List.getElem?_eq_getElem this]
theorem Ln{D Dp:az}{n:Nat}{a b:Int}{s:Bytes}(h:I8 D Dp n (aF Dp a b).other (pad (cG ((aF Dp a b).gen+1) s))){ks:dq}(hk: ∀x∈ks,x.1≠2)
  (hC:(aF Dp a b).ok n) (hs:s.length≤100) (hg:(aF Dp a b).gen<4611686018427387904):aF (D.bD ks) a b=aF Dp a b∨aF (D.bD ks) a b=(aF Dp a b).next s:=by
 have EB:=hC.gen;obtain⟨_,h1,h2⟩:=xR h hk;rcases h2 with h2|h2
 ·left
  have lQ: ∀j:Int,0≤j→j<n→(D.bD ks).sec j=Dp.sec j:=fun j j0 j1=>by
   by_cases hj:j=(aF Dp a b).other
   · rw[hj];exact h2
   · exact h1 j j0 j1 hj
  have e:=im Dp a b;have ha:=hC.a;have hb:=hC.b;rw[e.1]at ha;rw[e.2]at hb;exact gm (lQ a ha.1 ha.2) (lQ b hb.1 hb.2)
 ·right
  exact rJ hC hs hg (by rw[h2];exact qu (by rw[dy];omega)) h1
theorem adS(p:Int):qX .i64 p 1≠2:=by
 unfold qX
 have h:(BitVec.ofInt IntKind.i64.bits p&&&BitVec.ofInt IntKind.i64.bits 1).toNat≤1:=by
  rw[BitVec.toNat_and];have:(BitVec.ofInt IntKind.i64.bits 1).toNat=1:=by decide
  rw[this];exact Nat.and_le_right
 rw[wr (by omega) (by omega)];omega
theorem AX(ks:dq): ∀x∈kY ks,x.1≠2:=by
 intro x hx;obtain⟨y,_,rfl⟩:=List.mem_map.1 hx;exact adS y.1
end Go.Sl
namespace Go.Sl
open Go
inductive Kd where
 |b
 |i (k:IntKind)
 |s
def Kd.ok:Kd→Value→Bool
 | .b,.bool _=>true
 | .i k,.int k' _=>decide (k=k')
 | .s,.string _=>true
 |_,_=>false
def kZ:List Kd→List Value→Bool
 | [],[]=>true
 |k::ks,v::vs=>k.ok v&&kZ ks vs
 |_,_=>false
theorem kZ.len: ∀{ks:List Kd} {vs:List Value},kZ ks vs=true→ks.length=vs.length
 | [],[],_=>rfl
 | [],_::_,h=>by cases h
 |_::_,[],h=>by cases h
 |k::ks,v::vs,h=>by
  unfold kZ at h;rw[Bool.and_eq_true]at h;rw[List.length_cons,List.length_cons,kZ.len h.2]
theorem kZ.split: ∀{ps qs:List Kd} {vs:List Value},kZ (ps++qs) vs=true→kZ ps (vs.take ps.length)=true∧kZ qs (vs.drop ps.length)=true
 | [],qs,vs,h=>by
  refine⟨?_,by simpa using h⟩;rfl
 |k::ps,qs,[],h=>by cases h
 |k::ps,qs,v::vs,h=>by
  rw[List.cons_append]at h;unfold kZ at h;rw[Bool.and_eq_true]at h;obtain⟨h1,h2⟩:=kZ.split h.2;refine⟨?_,by simpa using h2⟩;rw[List.length_cons,List.take_succ_cons];unfold kZ;rw[h.1,h1];rfl
def pA(P:Program)(F:TypeId→Option (List Kd)):List Field→Nat→Option (List Kd)
 | [],_=>some []
 | f :: fs, o => if f.name ≠ "_" ∧ f.offset = o then
   match F f.type with
   |some l=>(match pA P F fs (o+l.length)with|some r=>some (l++r)|none=>none)
   |none=>none
  else none
def fM(P:Program):Nat→TypeId→Option (List Kd)
 |0,_=>none
 |m+1,t=>match P.underlying t with
  |some .bool=>some [.b]
  |some (.int q)=>some [.i q]
  |some .string=>some [.s]
  |some (.array n e)=>(match fM P m e with
   |some l=>if P.cellsOf t=n*l.length∧P.cellsOf e=l.length then some ((List.replicate n l).flatten)else none
   |none=>none)
  |some (.struct fs)=>if P.stoodInHeld t=false then(match pA P (fM P m) fs.toList 0 with
   |some l=>if P.cellsOf t=l.length then some l else none
   |none=>none)else none
  |_=>none
structure Fits(P:Program)(t:TypeId)(ks:List Kd)(a:Value):Prop where
 formed:a.formed P t=true
 ok:kZ ks a.cells.toList=true
variable {P : Program}
theorem mx{t:TypeId}{m:Nat}{ks:List Kd}(h:fM P (m+1) t=some ks):
  (P.plainKey t=true∧ ∃k,ks=[k]∧((P.underlying t=some .bool∧k= .b)∨(∃q,P.underlying t=some (.int q)∧k= .i q)∨(P.underlying t=some .string∧k= .s)))∨
  (∃n e l,P.underlying t=some (.array n e)∧fM P m e=some l∧P.cellsOf t=n*l.length∧P.cellsOf e=l.length∧ks=(List.replicate n l).flatten)∨
  (∃fs,P.underlying t=some (.struct fs)∧P.stoodInHeld t=false∧pA P (fM P m) fs.toList 0=some ks∧P.cellsOf t=ks.length):=by
 unfold fM at h;cases hu:P.underlying t with
 |none=>simp[hu]at h
 |some d=>
  cases d
  case bool=>simp[hu]at h;exact .inl ⟨by simp[Program.plainKey,hu],_,h.symm,.inl ⟨rfl,rfl⟩⟩
  case int q=>simp[hu]at h;exact .inl ⟨by simp[Program.plainKey,hu],_,h.symm,.inr (.inl ⟨q,rfl,rfl⟩)⟩
  case string=>simp[hu]at h;exact .inl ⟨by simp[Program.plainKey,hu],_,h.symm,.inr (.inr ⟨rfl,rfl⟩)⟩
  case array n e=>
   simp only[hu]at h;cases hl:fM P m e with
   |none=>simp[hl]at h
   |some l=>
    simp only[hl]at h;split at h
    ·rename_i hc;exact .inr (.inl ⟨n,e,l,rfl,hl,hc.1,hc.2,(Option.some.inj h).symm⟩)
    ·cases h
  case struct fs=>
   simp only[hu]at h;split at h
   ·rename_i hs
    cases hl:pA P (fM P m) fs.toList 0 with
    |none=>simp[hl]at h
    |some l=>
     simp only[hl]at h;split at h
     ·rename_i hc
      have:=Option.some.inj h;subst this;exact .inr (.inr ⟨fs,rfl,hs,hl,hc⟩)
     ·cases h
   ·cases h
  all_goals (simp[hu]at h;done)
theorem ok_one{k:Kd}{vs:List Value}(h:kZ [k] vs=true): ∃v,vs=[v]∧k.ok v=true:=by
 match vs,h with
 | [v],h=>unfold kZ at h;rw[Bool.and_eq_true]at h;exact⟨v,rfl,h.1⟩
 | [],h=>cases h
 |v::u::vs,h=>unfold kZ at h;rw[Bool.and_eq_true]at h;cases h.2
theorem DH{a:Value}{v:Value}{t:TypeId}(hf:a.formed P t=true)(hp:P.plainKey t=true)(h:a.cells.toList=[v]):a=v:=by
 unfold Program.plainKey at hp;cases hu:P.underlying t with
 |none=>simp[hu]at hp
 |some d=>
  cases a
  case agg cs=>cases d<;>simp[hu]at hp<;>simp[Value.formed,hu]at hf
  case tuple cs=>simp[Value.formed]at hf
  all_goals (simp[Value.cells]at h;exact h)
theorem qp(w:World){m:Nat}{e:TypeId}{l:List Kd}(h:fM P m e=some l){xs:Array Value}{off:Nat}(hx:kZ l ((xs.toList.drop off).take l.length)=true):
  ∃a,(part e xs off).run P w= .ok a w∧Fits P e l a∧a.cells.toList=(xs.toList.drop off).take l.length:=by
 cases m with
 |zero=>cases h
 |succ m=>
  have agg:P.cellsOf e=l.length→(∃n e',P.underlying e=some (.array n e'))∨(∃fs,P.underlying e=some (.struct fs))→ ∃a,(part e xs off).run P w= .ok a w∧Fits P e l a∧a.cells.toList=(xs.toList.drop off).take l.length:=by
   intro hc hk;have agb: ∃i,P.info? e=some i:=by rcases hk with⟨n,e',hu⟩|⟨fs,hu⟩<;>exact info_of_underlying hu
   obtain⟨i,hi⟩:=agb
   have hl:(xs.extract off (off+P.cellsOf e)).toList=(xs.toList.drop off).take l.length:=by
    rw[Array.toList_extract,hc];simp[List.extract]
   have hs:(xs.extract off (off+P.cellsOf e)).size=P.cellsOf e:=by rw[←Array.length_toList,hl,←kZ.len hx,hc]
   refine⟨.agg (xs.extract off (off+P.cellsOf e)),?_,⟨?_,by show kZ l (xs.extract off (off+P.cellsOf e)).toList=true;rw[hl];exact hx⟩,hl⟩
   ·rcases hk with⟨n,e',hu⟩|⟨fs,hu⟩<;>simp[part,isAgg,run_underlying hu,run_sizeOf w hi]
   ·rcases hk with⟨n,e',hu⟩|⟨fs,hu⟩<;>simp[Value.formed,hu,hs]
  rcases mx h with⟨hp,k,rfl,hk⟩|⟨n,e',l',hu,hl,hc,xU,rfl⟩|⟨fs,hu,_,hl,hc⟩
  ·obtain⟨v,hv,hkv⟩:=ok_one hx
   have oZ:xs[off]? =some v:=by
    have h0:=congrArg (·[0]?) hv;simp only[List.getElem?_cons_zero,List.length_singleton,List.getElem?_take,Nat.zero_lt_one,if_true,List.getElem?_drop,Nat.add_zero]at h0;simpa using h0
   have hvc:v.cells.toList=[v]:=by
    rcases hk with⟨_,rfl⟩|⟨q,_,rfl⟩|⟨_,rfl⟩<;>cases v<;>simp_all [Kd.ok,Value.cells]
   refine⟨v,run_part_plain w hp oZ,⟨?_,by rw[hvc];unfold kZ;rw[hkv];rfl⟩,by rw[hvc,hv]⟩;rcases hk with⟨hu,rfl⟩|⟨q,hu,rfl⟩|⟨hu,rfl⟩<;>cases v<;>simp_all [Kd.ok,Value.formed]
  ·exact agg (by rw[hc];simp) (.inl ⟨n,e',hu⟩)
  ·exact agg hc (.inr ⟨fs,hu⟩)
def Xh(P:Program)(dd:Nat)(F:TypeId→Option (List Kd)):Prop:=
 ∀(t:TypeId) (ks:List Kd),F t=some ks→ ∀(w:World) (a b:Value),Fits P t ks a→Fits P t ks b→ ∃r:Bool,(Op.equalIn dd t a b).run P w= .ok r w∧(r=true↔a.cells.toList=b.cells.toList)
theorem xj{a1 b1 c1 d1:List Value}(h:a1.length=b1.length):a1++c1=b1++d1↔(a1=b1∧c1=d1):=
 ⟨fun e=>List.append_inj e h,fun⟨e1,e2⟩=>by rw[e1,e2]⟩
theorem vq{m dd:Nat}(hE:Xh P dd (fM P m))(xs ys:Array Value)(w:World): ∀(fs:List Field) (o:Nat) (ks:List Kd),pA P (fM P m) fs o=some ks→
  kZ ks ((xs.toList.drop o).take ks.length)=true→kZ ks ((ys.toList.drop o).take ks.length)=true→
  ∃r:Bool,(Op.eqFields dd xs ys fs).run P w= .ok r w∧(r=true↔(xs.toList.drop o).take ks.length=(ys.toList.drop o).take ks.length)
 | [],o,ks,h,_,_=>by
  unfold pA at h;cases h;exact⟨true,by simp[Op.eqFields],by simp⟩
 |f::fs,o,ks,h,hx,hy=>by
  unfold pA at h;split at h
  ·rename_i hn
   cases hl:fM P m f.type with
   |none=>simp[hl]at h
   |some l=>
    cases hr:pA P (fM P m) fs (o+l.length)with
    |none=>simp[hl,hr]at h
    |some r=>
     simp only[hl,hr]at h;have:=Option.some.inj h;subst this
     have tk: ∀zs:Array Value,(zs.toList.drop o).take (l++r).length=(zs.toList.drop o).take l.length++(zs.toList.drop (o+l.length)).take r.length:=by
      intro zs;rw[List.length_append,List.take_add,List.drop_drop]
     have lx:=kZ.len hx;have ly:=kZ.len hy;obtain⟨x1,x2⟩:=kZ.split hx;obtain⟨y1,y2⟩:=kZ.split hy
     have t1: ∀zs:Array Value,((zs.toList.drop o).take (l++r).length).take l.length=(zs.toList.drop o).take l.length:=by
      intro zs;rw[List.take_take];congr 1;simp
     have t2: ∀zs:Array Value,((zs.toList.drop o).take (l++r).length).drop l.length=(zs.toList.drop (o+l.length)).take r.length:=by
      intro zs;rw[List.drop_take,List.drop_drop];congr 1;simp
     rw[t1]at x1 y1;rw[t2]at x2 y2;obtain⟨a,p1,f1,c1⟩:=qp w hl x1;obtain⟨b,p2,f2,c2⟩:=qp w hl y1;obtain⟨r1,h3,i3⟩:=hE f.type l hl w a b f1 f2;obtain⟨r2,h4,i4⟩:=vq hE xs ys w fs (o+l.length) r hr x2 y2;rw[←hn.2]at p1 p2;rw[c1,c2]at i3;rw[tk,tk,xj (by rw[←kZ.len x1,←kZ.len y1]),←i3,←i4];simp only[Op.eqFields,hn.1,ne_eq,not_false_eq_true,if_true,Sem.run_bind,p1,p2,h3,Result.andThen_ok];cases r1
     ·exact⟨false,by simp,by simp⟩
     ·exact⟨r2,by simpa using h4,by simp⟩
  ·cases h
theorem yf{m dd:Nat}{e:TypeId}{l:List Kd}(hl:fM P m e=some l)(hc:P.cellsOf e=l.length)(hE:Xh P dd (fM P m))(xs ys:Array Value)(w:World): ∀(n o:Nat),
  kZ (List.replicate n l).flatten ((xs.toList.drop (o*l.length)).take (n*l.length))=true→kZ (List.replicate n l).flatten ((ys.toList.drop (o*l.length)).take (n*l.length))=true→
  ∃r:Bool,(Op.eqItems dd e (P.cellsOf e) xs ys (List.range' o n)).run P w= .ok r w∧(r=true↔(xs.toList.drop (o*l.length)).take (n*l.length)=(ys.toList.drop (o*l.length)).take (n*l.length))
 |0,o,_,_=>⟨true,by simp[Op.eqItems],by simp⟩
 |n+1,o,hx,hy=>by
  have hfl:(List.replicate (n+1) l).flatten=l++(List.replicate n l).flatten:=by simp[List.replicate_succ]
  rw[hfl]at hx hy
  have tk: ∀zs:Array Value,(zs.toList.drop (o*l.length)).take ((n+1)*l.length)=(zs.toList.drop (o*l.length)).take l.length++(zs.toList.drop ((o+1)*l.length)).take (n*l.length):=by
   intro zs;rw[show(n+1)*l.length=l.length+n*l.length by rw[Nat.add_mul];omega,List.take_add,List.drop_drop,show(o+1)*l.length=o*l.length+l.length by rw[Nat.add_mul];omega]
  obtain⟨x1,x2⟩:=kZ.split hx;obtain⟨y1,y2⟩:=kZ.split hy
  have hlen: ∀zs:Array Value,kZ (l++(List.replicate n l).flatten) ((zs.toList.drop (o*l.length)).take ((n+1)*l.length))=true→((zs.toList.drop (o*l.length)).take l.length).length=l.length:=by
   intro zs hz;have:=kZ.len hz;simp at this;rw[List.length_take,List.length_drop];have h2:l.length≤(n+1)*l.length:=by rw[Nat.add_mul];omega
   have h3:(n+1)*l.length=l.length+n*l.length:=by rw[Nat.add_mul];omega
   simp;omega
  have t1: ∀zs:Array Value,((zs.toList.drop (o*l.length)).take ((n+1)*l.length)).take l.length=(zs.toList.drop (o*l.length)).take l.length:=by
   intro zs;rw[List.take_take];congr 1;rw[Nat.add_mul];omega
  have t2: ∀zs:Array Value,((zs.toList.drop (o*l.length)).take ((n+1)*l.length)).drop l.length=(zs.toList.drop ((o+1)*l.length)).take (n*l.length):=by
   intro zs;rw[List.drop_take,List.drop_drop,show(o+1)*l.length=o*l.length+l.length by rw[Nat.add_mul];omega];congr 1;rw[Nat.add_mul];omega
  have yb:=hlen xs hx;have hyl:=hlen ys hy;rw[t1]at x1 y1;rw[t2]at x2 y2;obtain⟨a,p1,f1,c1⟩:=qp w hl x1;obtain⟨b,p2,f2,c2⟩:=qp w hl y1;obtain⟨r1,h3,i3⟩:=hE e l hl w a b f1 f2;obtain⟨r2,h4,i4⟩:=yf hl hc hE xs ys w n (o+1) x2 y2;rw[c1,c2]at i3;rw[tk,tk,xj (by rw[yb,hyl]),←i3,←i4];rw[←hc]at p1 p2;rw[List.range'_succ];simp only[Op.eqItems,Sem.run_bind,p1,p2,h3,Result.andThen_ok];cases r1
  ·exact⟨false,by simp,by simp⟩
  ·exact⟨r2,by simpa using h4,by simp⟩
theorem Jl(d:Nat): ∀m:Nat,Xh P (d+m) (fM P m)
 |0=>fun t ks h=>by cases h
 |m+1=>by
  intro t ks h w a b ha hb;have IH:=Jl d m;have EF:=kZ.len ha.ok;have hlb:=kZ.len hb.ok;rcases mx h with⟨hp,k,rfl,hk⟩|⟨n,e',l',hu,hl,hc,xU,rfl⟩|⟨fs,hu,hs,hl,hc⟩
  ·obtain⟨x,hx,kx⟩:=ok_one ha.ok;obtain⟨y,hy,ky⟩:=ok_one hb.ok;have:=DH ha.formed hp hx;subst this;have:=DH hb.formed hp hy;subst this;rw[hx,hy,show d+(m+1)=(d+m)+1 from rfl];rcases hk with⟨hu,rfl⟩|⟨q,hu,rfl⟩|⟨hu,rfl⟩
   ·cases a<;>cases b<;>simp[Kd.ok]at kx ky
    rename_i p q
    exact⟨_,run_equalIn_bool w _ t p q hu,by simp⟩
   ·cases a<;>cases b<;>simp[Kd.ok]at kx ky
    rename_i k1 p k2 q'
    subst kx;subst ky;exact⟨_,run_equalIn_int w _ t _ _ p q' hu,by simp⟩
   ·cases a<;>cases b<;>simp[Kd.ok]at kx ky
    rename_i p q
    exact⟨_,run_equalIn_string w _ t p q hu,by
     simp only[beq_iff_eq,List.cons.injEq,Value.string.injEq,and_true,ByteArray.toList_eq,Array.toList_inj];exact⟨fun e=>ByteArray.ext e,fun e=>by rw[e]⟩⟩
  ·obtain⟨i,hi⟩:=info_of_underlying hu;have wm:=ha.formed;have hfb:=hb.formed;cases a<;>simp[Value.formed,hu]at wm
   cases b<;>simp[Value.formed,hu]at hfb
   rename_i xs ys
   obtain⟨j,hj⟩: ∃j,P.info? e'=some j:=by
    cases m with
    |zero=>cases hl
    |succ m=>
     rcases mx hl with⟨hp,_⟩|⟨_,_,_,M8,_⟩|⟨_,M8,_⟩
     ·unfold Program.plainKey at hp;cases M8:P.underlying e' with
      |none=>simp[M8]at hp
      |some d=>exact info_of_underlying M8
     ·exact info_of_underlying M8
     ·exact info_of_underlying M8
   have qg:kZ (List.replicate n l').flatten ((xs.toList.drop (0*l'.length)).take (n*l'.length))=true:=by
    rw[Nat.zero_mul,List.drop_zero,List.take_of_length_le (by rw[←show(Value.agg xs).cells.toList=xs.toList from rfl,←EF];simp)];exact ha.ok
   have hoy:kZ (List.replicate n l').flatten ((ys.toList.drop (0*l'.length)).take (n*l'.length))=true:=by
    rw[Nat.zero_mul,List.drop_zero,List.take_of_length_le (by rw[←show(Value.agg ys).cells.toList=ys.toList from rfl,←hlb];simp)];exact hb.ok
   obtain⟨r,h1,h2⟩:=yf hl xU IH xs ys w n 0 qg hoy;rw[Nat.zero_mul,List.drop_zero,List.drop_zero,List.take_of_length_le (by rw[←show(Value.agg xs).cells.toList=xs.toList from rfl,←EF];simp),List.take_of_length_le (by rw[←show(Value.agg ys).cells.toList=ys.toList from rfl,←hlb];simp)]at h2;refine⟨r,?_,h2⟩;rw[show d+(m+1)=(d+m)+1 from rfl,run_equalIn_array w (d+m) xs ys hu hj,List.range_eq_range',h1]
  ·have wm:=ha.formed;have hfb:=hb.formed;cases a<;>simp[Value.formed,hu]at wm
   cases b<;>simp[Value.formed,hu]at hfb
   rename_i xs ys
   have hfs:P.fieldsOf t=fs:=by simp[Program.fieldsOf,hu]
   have ex:(xs.toList.drop 0).take ks.length=xs.toList:=by rw[List.drop_zero,List.take_of_length_le (by rw[EF];exact Nat.le_refl _)]
   have ey:(ys.toList.drop 0).take ks.length=ys.toList:=by rw[List.drop_zero,List.take_of_length_le (by rw[hlb];exact Nat.le_refl _)]
   obtain⟨r,h1,h2⟩:=vq IH xs ys w fs.toList 0 ks hl (by rw[ex];exact ha.ok) (by rw[ey];exact hb.ok);rw[ex,ey]at h2;refine⟨r,?_,h2⟩;rw[show d+(m+1)=(d+m)+1 from rfl,run_equalIn_struct w (d+m) t xs ys (by rw[hfs];exact hu) hs,hfs,h1]
theorem vR{t:TypeId}{ks:List Kd}{xs ys:List Value}(h:fM P 8 t=some ks)(hs:(match P.underlying t with|some (.struct _)|some (.array _ _)=>true|_=>false)=true)(hx:kZ ks xs=true)(hy:kZ ks ys=true)(w:World):
  ∃r:Bool,(Op.equal t (.agg xs.toArray) (.agg ys.toArray)).run P w= .ok r w∧(r=true↔xs=ys):=by
 have hc:P.cellsOf t=ks.length:=by
  rcases mx (m:=7) h with⟨hp,k,rfl,hk⟩|⟨n,e',l',hu,hl,hc,xU,rfl⟩|⟨fs,hu,_,hl,hc⟩
  · rcases hk with⟨hu,rfl⟩|⟨q,hu,rfl⟩|⟨hu,rfl⟩<;>simp[hu]at hs
  · rw[hc];simp
  · exact hc
 have fit: ∀zs:List Value,kZ ks zs=true→Fits P t ks (.agg zs.toArray):=by
  intro zs hz;refine⟨?_,by simpa[Value.cells]using hz⟩;have:=kZ.len hz;cases hu:P.underlying t with
  |none=>simp[hu]at hs
  |some d=>cases d<;>simp[hu]at hs<;>simp[Value.formed,hu,hc,this]
 obtain⟨r,h1,h2⟩:=Jl (P:=P) 9992 8 t ks h w _ _ (fit xs hx) (fit ys hy);exact⟨r,h1,by simpa[Value.cells]using h2⟩
variable {n : Nat} {l : List (Nat × Value)} {L : List ax} {d : Option Tmp} {ty : TypeId} {pos : String} {af : Array Edge} {g : Option (Nat × Bool)}
theorem Ob [Env]{t t':TypeId}{x y:Operand}{ks:List Kd}{xs ys:List Value}(p:Prop) [Decidable p](hx:ev l x=some (.agg xs.toArray))(hy:ev l y=some (.agg ys.toArray))(h:fM P 8 t=some ks)(hm:P.eqGuardType P.depth t=false)
  (hs:(match P.underlying t with|some (.struct _)|some (.array _ _)=>true|_=>false)=true) (h1:kZ ks xs=true) (h2:kZ ks ys=true) (hp:xs=ys↔p):Ev P n ⟨d,.binOp .eql t x y t',ty,pos,af,g⟩ l L (.bool (decide p)):=
 fun a w hf _=>by
  obtain⟨r,e,e2⟩:=vR h hs h1 h2 w;have e3:r=decide p:=by rw[Bool.eq_iff_iff,e2,hp];simp
  simp[execOp,binOp,hf.ev hx,hf.ev hy,run_eqGuard_agg w _ _ _ _ _ _ hm,e,e3]
theorem Od [Env]{t t':TypeId}{x y:Operand}{ks:List Kd}{xs ys:List Value}(p:Prop) [Decidable p](hx:ev l x=some (.agg xs.toArray))(hy:ev l y=some (.agg ys.toArray))(h:fM P 8 t=some ks)(hm:P.eqGuardType P.depth t=false)
  (hs:(match P.underlying t with|some (.struct _)|some (.array _ _)=>true|_=>false)=true) (h1:kZ ks xs=true) (h2:kZ ks ys=true) (hp:xs=ys↔p):Ev P n ⟨d,.binOp .neq t x y t',ty,pos,af,g⟩ l L (.bool (!decide p)):=
 fun a w hf _=>by
  obtain⟨r,e,e2⟩:=vR h hs h1 h2 w;have e3:r=decide p:=by rw[Bool.eq_iff_iff,e2,hp];simp
  simp[execOp,binOp,hf.ev hx,hf.ev hy,run_eqGuard_agg w _ _ _ _ _ _ hm,e,e3]
def Jr(P:Program)(t:TypeId)(xs ys:List Value):Bool:=match fM P 8 t with
 |some ks=>kZ ks xs&&kZ ks ys&& !P.eqGuardType P.depth t&&(match P.underlying t with|some (.struct _)|some (.array _ _)=>true|_=>false)
 |none=>false
theorem D7{t:TypeId}{xs ys:List Value}(h:Jr P t xs ys=true): ∃ks,fM P 8 t=some ks∧kZ ks xs=true∧kZ ks ys=true∧P.eqGuardType P.depth t=false∧(match P.underlying t with|some (.struct _)|some (.array _ _)=>true|_=>false)=true:=by
 unfold Jr at h;cases hf:fM P 8 t with
 |none=>simp[hf]at h
 |some ks=>
  simp only[hf,Bool.and_eq_true,Bool.not_eq_true']at h;exact⟨ks,rfl,h.1.1.1,h.1.1.2,h.1.2,h.2⟩
theorem Jm [Env]{t t':TypeId}{x y:Operand}{xs ys:List Value}{p:Prop} [Decidable p](hx:ev l x=some (.agg xs.toArray))(hy:ev l y=some (.agg ys.toArray))(h:Jr P t xs ys=true)(hp:xs=ys↔p):
  Ev P n ⟨d,.binOp .eql t x y t',ty,pos,af,g⟩ l L (.bool (decide p)):=by
 obtain⟨ks,h1,h2,h3,h4,h5⟩:=D7 h;exact Ob p hx hy h1 h4 h5 h2 h3 hp
theorem sC [Env]{t t':TypeId}{x y:Operand}{xs ys:List Value}{p:Prop} [Decidable p](hx:ev l x=some (.agg xs.toArray))(hy:ev l y=some (.agg ys.toArray))(h:Jr P t xs ys=true)(hp:xs=ys↔p):
  Ev P n ⟨d,.binOp .neq t x y t',ty,pos,af,g⟩ l L (.bool (!decide p)):=by
 obtain⟨ks,h1,h2,h3,h4,h5⟩:=D7 h;exact Od p hx hy h1 h4 h5 h2 h3 hp
theorem str_inj{p q:Bytes}:(⟨p.toArray⟩:ByteArray)=⟨q.toArray⟩↔p=q:=
 ⟨fun e=>by have:=congrArg ByteArray.data e;simpa using this,fun e=>by rw[e]⟩
theorem AQ{a b:List Int}:aW a=aW b↔a=b:=by
 unfold aW;constructor
 ·intro h;have hh:Function.Injective (Value.int IntKind.i64):=fun x y e=>by injection e
  exact List.map_inj_right (fun x y e=>hh e)|>.1 h
 ·intro h;rw[h]
theorem aM.Aw{a b:aM}:a.cells=b.cells↔a=b:=by
 constructor
 ·intro h;cases a;cases b;simp only[aM.cells,List.cons.injEq,Value.int.injEq,Value.string.injEq,true_and,and_true,str_inj]at h;obtain⟨h1,h2,h3,h4,h5,h6,h7,h8,h9,Ha,zK,AG,h13⟩:=h;subst h1;subst h2;subst h3;subst h4;subst h5;subst h6;subst h7;subst h8;subst h9;subst Ha;subst zK;subst AG;subst h13;rfl
 ·intro h;rw[h]
end Go.Sl
namespace Go.Sl
open Go.ChangeShapes Go.WideShapes Go.ChangeAt Go.RowKit Go.Deep
section
variable {H : Type} {enc : TypeId × Value → H} {P : Program} {W : World} {base : Nat} {spare : Nat → Bool} {held : Bool}
end
end Go.Sl
namespace Go.Sl
variable {P : Program} {n : Nat} {Q : Exit → Act → World → Prop} {l : List (Nat × Value)} {L : List ax}
theorem X4 [Env]{c:Code}(h:Sc P n c (Exit.noGoto Q) l L):Sc P n (.scope c) Q l L:=fun a w hf hh=>wp_scope_straight (h a w hf hh)
theorem XU [Env]{i:Nat}(k:Sk n (Q .normal) l L):Sc P n (.label i) Q l L:=fun a w hf hh=>wp_label (k a w hf hh)
theorem kg [Env]{e:Exit}(he:Exit.noGoto Q e=Q e)(h:Sk n (Q e) l L):Sk n (Exit.noGoto Q e) l L:=by rw[he];exact h
end Go.Sl
namespace Go.Sl
section
variable {P : Program} {n : Nat} {l : List (Nat × Value)} {L : List ax} {dd : Option Tmp} {ty : TypeId} {pos : String} {af : Array Edge} {g : Option (Nat × Bool)}
end
end Go.Sl