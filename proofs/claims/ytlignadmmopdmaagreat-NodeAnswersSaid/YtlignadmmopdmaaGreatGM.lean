/- A part of the proof. -/
import Derived.Test.YtlignadmmopdmaaGreatGG
import Derived.Test.YtlignadmmopdmaaGreatGL
set_option linter.unusedVariables false
set_option linter.unusedSimpArgs false
set_option linter.constructorNameAsVariable false
namespace Go.Sl
def recL(q t:Int)(s:Bytes):RecM:=⟨2,[q,t],[s]⟩
def headR(h t l:Int):RecM:=⟨3,[h,t,l],[]⟩
def goodL(r:RecM):Bool:=decide (r.kind=2)&&decide ((r.nums.length:Int)=2)&&decide ((r.texts.length:Int)=1)&&decide (((r.texts.getD 0 []).length:Int)≤110)
def okL'(b:Bytes):Bool:=(unfrM b).2&&goodL (unfrM b).1
def readL(b:Bytes):Option (Int × Int × Bytes):=if okL' b=true then some ((unfrM b).1.nums.getD 0 0,(unfrM b).1.nums.getD 1 0,(unfrM b).1.texts.getD 0 [])else none
def I63(n:Int):Prop:=0≤n∧n≤4611686018427388416
theorem recL_may{q t:Int}{s:Bytes}(hq:I63 q)(ht:I63 t)(hs:s.length≤110):(recL q t s).may:=by
 obtain⟨a,b⟩:=hq;obtain⟨c,d⟩:=ht;refine⟨by simp[recL],by simp[recL],by simp[recL],by simp[recL],fun x hx=>?_,fun n hn=>?_⟩
 ·simp only[recL,List.mem_cons,List.not_mem_nil,or_false]at hx;subst hx;omega
 ·simp only[recL,List.mem_cons,List.not_mem_nil,or_false]at hn;rcases hn with rfl|rfl<;>omega
theorem recL_len{q t:Int}{s:Bytes}(hq:I63 q)(ht:I63 t)(hs:s.length≤110):(recB (recL q t s)).length≤133:=by
 have h:=numsB_len (recL_may hq ht hs).num;have e:(recL q t s).nums.length=2:=rfl;rw[e]at h;have e2:(textsB (recL q t s).texts).length=1+s.length:=by simp[recL,textsB];omega
 simp only[recB,List.length_cons,List.length_append,e2];omega
theorem headR_may{h t l:Int}(hh:I63 h)(ht:I63 t)(hl:I63 l):(headR h t l).may:=by
 obtain⟨a,b⟩:=hh;obtain⟨c,d⟩:=ht;obtain⟨e,f⟩:=hl;refine⟨by simp[headR],by simp[headR],by simp[headR],by simp[headR],fun x hx=>by simp[headR]at hx,fun n hn=>?_⟩;simp only[headR,List.mem_cons,List.not_mem_nil,or_false]at hn;rcases hn with rfl|rfl|rfl<;>omega
theorem headR_len{h t l:Int}(hh:I63 h)(ht:I63 t)(hl:I63 l):(recB (headR h t l)).length≤100:=by
 have h1:=numsB_len (headR_may hh ht hl).num;have e:(headR h t l).nums.length=3:=rfl;rw[e]at h1;have e2:textsB (headR h t l).texts=[]:=rfl;simp only[recB,List.length_cons,List.length_append,e2,List.length_nil];omega
def frL(q t:Int)(s:Bytes):Bytes:=framed (recB (recL q t s))
theorem readL_ok{b:Bytes}{q t:Int}{s:Bytes}(h:readL b=some (q,t,s)):s.length≤110:=by
 unfold readL at h;split at h
 ·rename_i hk
  unfold okL' goodL at hk;simp only[Bool.and_eq_true,decide_eq_true_eq]at hk;simp only[Option.some.injEq,Prod.mk.injEq]at h;obtain⟨_,_,rfl⟩:=h;omega
 ·cases h
structure LogM where
 first:Int
 n:Nat
 c:CellM
 head:Int
 time:Int
 least:Int
 l:List (Bytes × Int)
def LogM.tail(L:LogM):Int:=L.head+L.l.length
def LogM.place(L:LogM)(k:Int):Int:=L.first+k % L.n
def LogM.put(L:LogM)(D:Dev)(head least:Int):Int × LogM × Dev:=
 ((L.c.put D (recB (headR head L.time least))).1,{L with c:=(L.c.put D (recB (headR head L.time least))).2.1},(L.c.put D (recB (headR head L.time least))).2.2)
def LogM.append(L:LogM)(D:Dev)(s:Bytes):Int × LogM × Dev:=
 if 110<(s.length:Int)then(3,L,D)else if(L.n:Int)-L.l.length=0 then(12,L,D)else if 4611686018427387904≤L.tail then(23,L,D)else
 ((D.write (L.place L.tail) (frL L.tail L.time s)).1,if(D.write (L.place L.tail) (frL L.tail L.time s)).1=0 then{L with l:=L.l++[(s,L.time)]}else L,(D.write (L.place L.tail) (frL L.tail L.time s)).2)
def LogM.leastAt(L:LogM)(k:Int):Int:=if L.head<k then(L.l.getD (k-L.head- 1).toNat ([],0)).2 else L.least
def LogM.cut(L:LogM)(k:Int):LogM:={L with l:=L.l.drop (k-L.head).toNat,head:=k,least:=L.leastAt k}
def LogM.trim(L:LogM)(D:Dev)(k:Int):Int × LogM × Dev:=
 if within3 k L.head L.tail=false then(1,L,D)else
 if D.barrier.1≠0 then(D.barrier.1,L,D.barrier.2)else
 ((L.put D.barrier.2 k (L.leastAt k)).1,if(L.put D.barrier.2 k (L.leastAt k)).1=0 then(L.put D.barrier.2 k (L.leastAt k)).2.1.cut k else(L.put D.barrier.2 k (L.leastAt k)).2.1,(L.put D.barrier.2 k (L.leastAt k)).2.2)
/-- What lies in the cell. -/
def headOk(t:Bytes):Bool:=decide ((decM t).2=0)&&decide ((decM t).1.kind=3)&&decide (((decM t).1.nums.length:Int)=3)&&decide (((decM t).1.texts.length:Int)=0)&&
 within3 ((decM t).1.nums.getD 0 0) 1 4611686018427387904&&within3 ((decM t).1.nums.getD 1 0) 0 4611686018427387904&&within3 ((decM t).1.nums.getD 2 0) 0 4611686018427387904
def headOf(t:Bytes):Int × Int × Int:=if headOk t=true then((decM t).1.nums.getD 0 0,(decM t).1.nums.getD 1 0,(decM t).1.nums.getD 2 0)else(1,0,0)
def scanL(D:Dev)(first:Int)(n:Nat)(time:Int):Nat→Int→Int→List (Bytes × Int)
 |0,_,_=>[]
 |f+1,tail,lo=>match readL (D.sec (first+tail % n))with
  |some (q,t,s)=>if q=tail∧lo≤t∧t≤time then(s,t)::scanL D first n time f (tail+1) t else []
  |none=>[]
def inRing(first n s:Int):Prop:=first≤s∧s-first<n
instance (first n s:Int):Decidable (inRing first n s):=inferInstanceAs (Decidable (_∧_))
def logArg(D:Dev)(first n a b:Int):Prop:=n<2∨first<0∨(D.l.length:Int)<n∨(D.l.length:Int)-n<first∨inRing first n a∨inRing first n b
instance (D:Dev)(first n a b:Int):Decidable (logArg D first n a b):=inferInstanceAs (Decidable (_∨_))
def log0(D:Dev)(first:Int)(n:Nat)(a b:Int):LogM:=
 ⟨first,n,openC D a b,(headOf (openC D a b).text).1,(headOf (openC D a b).text).2.1+1,(headOf (openC D a b).text).2.2,
  scanL D first n (headOf (openC D a b).text).2.1 n (headOf (openC D a b).text).1 (headOf (openC D a b).text).2.2⟩
def logOpen(D:Dev)(first n a b:Int):Int × LogM × Dev:=
 if logArg D first n a b then(1,log0 D first n.toNat a b,D)else if openE D a b≠0 then(openE D a b,log0 D first n.toNat a b,D)else
 if(headOf (openC D a b).text).2.1=4611686018427387904 then(22,log0 D first n.toNat a b,D)else
 (log0 D first n.toNat a b).put D (log0 D first n.toNat a b).head (log0 D first n.toNat a b).least
theorem headOf_ok(t:Bytes):(1≤(headOf t).1∧(headOf t).1≤4611686018427387904)∧(0≤(headOf t).2.1∧(headOf t).2.1≤4611686018427387904)∧(0≤(headOf t).2.2∧(headOf t).2.2≤4611686018427387904):=by
 unfold headOf;split
 ·rename_i h
  unfold headOk within3 at h;simp only[Bool.and_eq_true,decide_eq_true_eq]at h;dsimp only;omega
 ·exact⟨by decide,by decide,by decide⟩
structure LogM.ok(L:LogM)(D:Dev):Prop where
 n:2≤L.n
 first:0≤L.first∧L.first+L.n≤D.l.length
 c:L.c.ok D.l.length
 head:1≤L.head
 time:0≤L.time∧L.time≤4611686018427387904
 least:0≤L.least∧L.least≤4611686018427387904
 l:L.l.length≤L.n
 its: ∀x∈L.l,x.1.length≤110∧0≤x.2∧x.2≤4611686018427387904
 tail:L.tail≤4611686018427387904+L.n
 d:D.ok
theorem scanL_len{D:Dev}{first:Int}{n:Nat}{time:Int}: ∀(f:Nat) (tail lo:Int),(scanL D first n time f tail lo).length≤f
 |0,_,_=>Nat.le_refl _
 |f+1,tail,lo=>by
  unfold scanL;split
  ·split
   ·rename_i q t s _ _
    have:=scanL_len (D:=D) (first:=first) (n:=n) (time:=time) f (tail+1) t;simp only[List.length_cons];omega
   ·simp
  ·simp
theorem scanL_its{D:Dev}{first:Int}{n:Nat}{time:Int}: ∀(f:Nat) (tail lo:Int),0≤lo→ ∀x∈scanL D first n time f tail lo,x.1.length≤110∧0≤x.2∧x.2≤time
 |0,_,_,_,x,hx=>by cases hx
 |f+1,tail,lo,h0,x,hx=>by
  unfold scanL at hx;split at hx
  ·rename_i q t s hr
   split at hx
   ·rename_i hc
    rcases List.mem_cons.1 hx with rfl|hx
    · exact⟨readL_ok hr,by omega,by omega⟩
    · exact scanL_its f (tail+1) t (by omega) x hx
   ·cases hx
  ·cases hx
theorem log0_ok{D:Dev}{first a b:Int}{n:Nat}(hD:D.ok)(ha: ¬logArg D first n a b)(he:openE D a b=0)(ht:(headOf (openC D a b).text).2.1≠4611686018427387904):(log0 D first n a b).ok D:=by
 obtain⟨h1,h2,h3⟩:=headOf_ok (openC D a b).text;unfold logArg at ha;have hl:=scanL_len (D:=D) (first:=first) (n:=n) (time:=(headOf (openC D a b).text).2.1) n (headOf (openC D a b).text).1 (headOf (openC D a b).text).2.2;refine⟨by show 2≤n;omega,⟨by show 0≤first;omega,by show first+n≤_;omega⟩,(openC_ok he).1,h1.1,⟨by simp only[log0];omega,by simp only[log0];omega⟩,h3,hl,fun x hx=>?_,?_,hD⟩
 ·have:=scanL_its n _ _ h3.1 x hx;exact⟨this.1,this.2.1,by omega⟩
 ·unfold LogM.tail log0;dsimp only;omega
theorem LogM.put_ok{L:LogM}{D:Dev}(h:L.ok D)(head least:Int):(L.put D head least).2.1.ok (L.put D head least).2.2:=by
 have hp:=Go.Sl.put_ok h.c h.d (recB (headR head L.time least));unfold LogM.put;refine⟨h.n,?_,?_,h.head,h.time,h.least,h.l,h.its,h.tail,hp.2⟩
 · dsimp only;rw[put_l];exact h.first
 · dsimp only;rw[put_l];exact hp.1
theorem LogM.append_ok{L:LogM}{D:Dev}(h:L.ok D)(s:Bytes):(L.append D s).2.1.ok (L.append D s).2.2:=by
 unfold LogM.append;split
 ·exact h
 ·split
  ·exact h
  ·split
   ·exact h
   ·rename_i h1 h2 h3
    have hw:=Dev.write_ok h.d (L.place L.tail) (frL L.tail L.time s);dsimp only;split
    ·refine⟨h.n,by rw[write_l];exact h.first,by rw[write_l];exact h.c,h.head,h.time,h.least,?_,fun x hx=>?_,?_,hw⟩
     ·have:=h.l;simp only[List.length_append,List.length_singleton];omega
     ·dsimp only at hx;rcases List.mem_append.1 hx with hx|hx
      ·exact h.its x hx
      ·simp only[List.mem_singleton]at hx;subst hx;exact⟨by dsimp only;omega,h.time.1,h.time.2⟩
     ·unfold LogM.tail at h3 ⊢;have:=h.n;simp only[List.length_append,List.length_singleton];omega
    ·exact⟨h.n,by rw[write_l];exact h.first,by rw[write_l];exact h.c,h.head,h.time,h.least,h.l,h.its,h.tail,hw⟩
theorem leastAt_ok{L:LogM}{D:Dev}(h:L.ok D){k:Int}(hk:k≤L.tail):0≤L.leastAt k∧L.leastAt k≤4611686018427387904:=by
 unfold LogM.leastAt;split
 ·rename_i hlt
  unfold LogM.tail at hk;have hg:L.l[(k-L.head- 1).toNat]? =some (L.l.getD (k-L.head- 1).toNat ([],0)):=getd_get (by omega);have:=h.its _ (List.mem_of_getElem? hg);exact this.2
 ·exact h.least
theorem LogM.trim_ok{L:LogM}{D:Dev}(h:L.ok D)(k:Int):(L.trim D k).2.1.ok (L.trim D k).2.2:=by
 unfold LogM.trim;have hb:L.ok D.barrier.2:=⟨h.n,by rw[barrier_l];exact h.first,by rw[barrier_l];exact h.c,h.head,h.time,h.least,h.l,h.its,h.tail,Dev.barrier_ok h.d⟩;split
 ·exact h
 ·rename_i hw
  have hw2:L.head≤k∧k≤L.tail:=within3_iff.1 (by simpa using hw);split
  ·exact hb
  ·dsimp only;have hp:=LogM.put_ok hb k (L.leastAt k);split
   ·have hlo:=leastAt_ok h hw2.2;have htl:=h.tail;have hh:=h.head;refine⟨hp.n,hp.first,hp.c,?_,hp.time,hlo,?_,fun x hx=>hp.its x (List.mem_of_mem_drop hx),?_,hp.d⟩
    ·show 1≤k;omega
    ·show(L.l.drop _).length≤L.n;have:=h.l;simp only[List.length_drop];omega
    ·show k+((L.l.drop (k-L.head).toNat).length:Int)≤4611686018427387904+(L.n:Int);unfold LogM.tail at htl hw2;simp only[List.length_drop];omega
   ·exact hp
theorem okL_cons(b0 b1 b2 b3 b4:UInt8)(r:Bytes):okL' (b0::b1::b2::b3::b4::r)=(!decide (r.length+5<b4.toNat+5)&&(decide (sumM ((b4::r).take (b4.toNat+1))=ofBe4 (b0::b1::b2::b3::b4::r))&&(decide ((decM (r.take b4.toNat)).2=0)&&goodL (decM (r.take b4.toNat)).1))):=by
 unfold okL';rw[unfr_cons]
 by_cases h1:r.length+5<b4.toNat+5
 ·rw[if_pos h1];simp[h1]
 ·rw[if_neg h1]
  by_cases h2:sumM ((b4::r).take (b4.toNat+1))=ofBe4 (b0::b1::b2::b3::b4::r)
  · rw[if_pos h2,decide_eq_false h1,decide_eq_true h2];rfl
  · rw[if_neg h2,decide_eq_false h1,decide_eq_false h2];rfl
/-- A sector that is read, in numbers. -/
def UnL(b0 b1 b2 b3 b4:UInt8)(r:Bytes)(rc:RecM)(er:Int):Prop:=
 ¬sumM ((b4::r).take (b4.toNat+1))=ofBe4 (b0::b1::b2::b3::b4::r)∨ ¬er=0∨ ¬rc.kind=2∨ ¬(rc.nums.length:Int)=2∨ ¬(rc.texts.length:Int)=1
theorem okL_dich{b0 b1 b2 b3 b4:UInt8}{r:Bytes}(h: ¬r.length+5<b4.toNat+5):
  (UnL b0 b1 b2 b3 b4 r (decM (r.take b4.toNat)).1 (decM (r.take b4.toNat)).2→okL' (b0::b1::b2::b3::b4::r)=false)∧
  (¬UnL b0 b1 b2 b3 b4 r (decM (r.take b4.toNat)).1 (decM (r.take b4.toNat)).2→okL' (b0::b1::b2::b3::b4::r)=decide ((((decM (r.take b4.toNat)).1.texts.getD 0 []).length:Int)≤110))∧
  (okL' (b0::b1::b2::b3::b4::r)=true→(unfrM (b0::b1::b2::b3::b4::r)).1=(decM (r.take b4.toNat)).1):=by
 refine⟨fun hu=>?_,fun hu=>?_,fun hk=>?_⟩
 ·rw[okL_cons];unfold UnL at hu;unfold goodL;rcases hu with h1|h1|h1|h1|h1<;>rw[decide_eq_false h1]<;>simp only[Bool.false_and,Bool.and_false]
 ·rw[okL_cons];unfold UnL at hu;unfold goodL;rw[decide_eq_false h,decide_eq_true (p:=sumM _=_) (by omega),decide_eq_true (p:=(decM _).2=0) (by omega),decide_eq_true (p:=(decM _).1.kind=2) (by omega),decide_eq_true (p:=(_:Int)=2) (by omega),decide_eq_true (p:=(_:Int)=1) (by omega)];simp
 ·rw[okL_cons]at hk;simp only[Bool.and_eq_true,decide_eq_true_eq,Bool.not_eq_true',decide_eq_false_iff_not]at hk;rw[unfr_cons,if_neg h,if_pos hk.2.1]
theorem enc_may{r:RecM}(h:r.may):encM r=(recB r,0):=by unfold encM;rw[if_pos (mayB_of h)]
theorem headD_get0(l:List Bytes):l.headD []=l.getD 0 []:=by cases l<;>rfl
theorem okL_short{b0 b1 b2 b3 b4:UInt8}{r:Bytes}(h:r.length+5<b4.toNat+5):okL' (b0::b1::b2::b3::b4::r)=false:=by
 rw[okL_cons,decide_eq_true h];rfl
theorem readL_some{b:Bytes}(h:okL' b=true):readL b=some ((unfrM b).1.nums.getD 0 0,(unfrM b).1.nums.getD 1 0,(unfrM b).1.texts.getD 0 []):=by
 unfold readL;rw[if_pos h]
theorem readL_none{b:Bytes}(h:okL' b=false):readL b=none:=by
 unfold readL;rw[if_neg (by rw[h];decide)]
theorem okL_good{b:Bytes}(h:okL' b=true):(unfrM b).1.nums.length=2∧(unfrM b).1.texts.length=1:=by
 unfold okL' goodL at h;simp only[Bool.and_eq_true,decide_eq_true_eq]at h;omega
/-- The items, as they lie. -/
def itemsV(l:List (Bytes × Int)):List Value:=(l.map fun x=>[Value.string ⟨x.1.toArray⟩,.int .i64 x.2]).flatten
theorem itemsV_len(l:List (Bytes × Int)):(itemsV l).length=l.length*2:=by
 induction l with
 |nil=>rfl
 |cons x l ih=>simp only[itemsV,List.map_cons,List.flatten_cons,List.length_append,List.length_cons,List.length_nil]at ih ⊢;omega
theorem itemsV_app(l m:List (Bytes × Int)):itemsV (l++m)=itemsV l++itemsV m:=by simp[itemsV]
theorem itemsV_one(l:List (Bytes × Int)): ∀u∈itemsV l,u.oneCell'=true:=by
 intro u hu;simp only[itemsV,List.mem_flatten,List.mem_map]at hu;obtain⟨x,⟨y,_,rfl⟩,hx⟩:=hu;simp at hx;rcases hx with rfl|rfl<;>rfl
theorem itemsV_drop(l:List (Bytes × Int))(k:Nat):(itemsV l).drop (k*2)=itemsV (l.drop k):=by
 induction k generalizing l with
 |zero=>simp
 |succ k ih=>
  cases l with
  |nil=>simp[itemsV]
  |cons x l=>
   have:itemsV (x::l)=Value.string ⟨x.1.toArray⟩::Value.int .i64 x.2::itemsV l:=by simp[itemsV]
   rw[this,show(k+1)*2=k*2+2 by omega,List.drop_succ_cons,List.drop_succ_cons,List.drop_succ_cons,ih]
theorem itemsV_get1{l:List (Bytes × Int)}{k:Nat}{x:Bytes × Int}(h:l[k]? =some x):(itemsV l)[k*2+1]? =some (.int .i64 x.2):=by
 have e:=itemsV_drop l k;have:(itemsV l)[k*2+1]? =((itemsV l).drop (k*2))[1]? :=by rw[List.getElem?_drop]
 rw[this,e,List.drop_eq_getElem_cons (by exact(List.getElem?_eq_some_iff.1 h).1)];obtain⟨h1,h2⟩:=List.getElem?_eq_some_iff.1 h;rw[h2];rfl
theorem item_two{l:List (Bytes × Int)}{k:Nat}{x:Bytes × Int}(h:l[k]? =some x):((itemsV l).drop (k*2)).take 2=[.string ⟨x.1.toArray⟩,.int .i64 x.2]:=by
 rw[itemsV_drop,List.drop_eq_getElem_cons (by exact(List.getElem?_eq_some_iff.1 h).1)];obtain⟨h1,h2⟩:=List.getElem?_eq_some_iff.1 h;rw[h2];simp[itemsV]
theorem srcV [Env]{P:Program}{L:List Seg}{size m:Nat}{v:Value}{vs:List Value}(h:RdV L v m vs)(hl:vs.length=m*size):Src P L size v m vs:=by
 rcases h with⟨rfl,rfl,rfl⟩|⟨a,c,rfl,h3,h2⟩
 ·exact src_nil
 ·refine⟨hl,fun w hh=>⟨by simp[Builtin.lenOf],?_⟩⟩;refine run_firstCells_some w size m _ m c vs hl (fun j v hj=>?_)
  have hj':j<vs.length:=by
   rcases Nat.lt_or_ge j vs.length with h|h
   · exact h
   · rw[List.getElem?_eq_none h]at hj;cases hj
  have hm:m≠0:=fun h0=>by rw[h0,Nat.zero_mul]at hl;omega
  have hs:=h3 hm;have:=h2 w hh j hj';rw[List.getElem?_eq_getElem hj']at hj;cases hj;cases a;simp at hs;subst hs;rw[add_lit];exact this
theorem items_len{L:LogM}{D:Dev}(h:L.ok D):L.l.length≤512:=by
 have:=h.l;have:=h.first;have:=h.d.n;omega
theorem LogM.n_le{L:LogM}{D:Dev}(h:L.ok D):L.n≤512:=by
 have:=h.first;have:=h.d.n;omega
theorem LogM.first_le{L:LogM}{D:Dev}(h:L.ok D):L.first≤512:=by
 have:=h.first;have:=h.d.n;omega
theorem headOf_bad{t:Bytes}{rc:RecM}{er:Int}(hd:decM t=(rc,er))(h: ¬er=0∨ ¬rc.kind=3∨ ¬(rc.nums.length:Int)=3∨ ¬(rc.texts.length:Int)=0∨within3 (rc.nums.getD 0 0) 1 4611686018427387904=false∨within3 (rc.nums.getD 1 0) 0 4611686018427387904=false∨within3 (rc.nums.getD 2 0) 0 4611686018427387904=false):
  headOf t=(1,0,0):=by
 unfold headOf;rw[if_neg];unfold headOk;rw[hd];intro hk;simp only[Bool.and_eq_true,decide_eq_true_eq]at hk;obtain⟨⟨⟨⟨⟨⟨h1,h2⟩,h3⟩,h4⟩,h5⟩,h6⟩,h7⟩:=hk;rcases h with h|h|h|h|h|h|h
 ·exact h h1
 ·exact h h2
 ·exact h h3
 ·exact h h4
 ·rw[h5]at h;cases h
 ·rw[h6]at h;cases h
 ·rw[h7]at h;cases h
theorem headOf_good{t:Bytes}{rc:RecM}{er:Int}(hd:decM t=(rc,er))(h1:er=0)(h2:rc.kind=3)(h3:(rc.nums.length:Int)=3)(h4:(rc.texts.length:Int)=0)(h5:within3 (rc.nums.getD 0 0) 1 4611686018427387904=true)(h6:within3 (rc.nums.getD 1 0) 0 4611686018427387904=true)(h7:within3 (rc.nums.getD 2 0) 0 4611686018427387904=true):
  headOf t=(rc.nums.getD 0 0,rc.nums.getD 1 0,rc.nums.getD 2 0):=by
 unfold headOf;rw[if_pos]
 ·rw[hd]
 ·unfold headOk;rw[hd];simp only[Bool.and_eq_true,decide_eq_true_eq];exact⟨⟨⟨⟨⟨⟨h1,h2⟩,h3⟩,h4⟩,h5⟩,h6⟩,h7⟩
theorem scan_go{D:Dev}{first:Int}{n:Nat}{time:Int}{f:Nat}{tail lo q t:Int}{s:Bytes}(h:readL (D.sec (first+tail % n))=some (q,t,s))(hq:q=tail)(h1:lo≤t)(h2:t≤time):
  scanL D first n time (f+1) tail lo=(s,t)::scanL D first n time f (tail+1) t:=by
 rw[scanL,h];dsimp only;rw[if_pos ⟨hq,h1,h2⟩]
theorem scan_no{D:Dev}{first:Int}{n:Nat}{time:Int}{f:Nat}{tail lo:Int}(h:readL (D.sec (first+tail % n))=none):scanL D first n time f tail lo=[]:=by
 cases f with
 |zero=>rfl
 |succ f=>rw[scanL,h]
theorem scan_bad{D:Dev}{first:Int}{n:Nat}{time:Int}{f:Nat}{tail lo q t:Int}{s:Bytes}(h:readL (D.sec (first+tail % n))=some (q,t,s))(hc: ¬(q=tail∧lo≤t∧t≤time)):
  scanL D first n time f tail lo=[]:=by
 cases f with
 |zero=>rfl
 |succ f=>rw[scanL,h];dsimp only;rw[if_neg hc]
theorem LogM.bar_ok{L:LogM}{D:Dev}(h:L.ok D):L.ok D.barrier.2:=⟨h.n,by rw[barrier_l];exact h.first,by rw[barrier_l];exact h.c,h.head,h.time,h.least,h.l,h.its,h.tail,Dev.barrier_ok h.d⟩
end Go.Sl