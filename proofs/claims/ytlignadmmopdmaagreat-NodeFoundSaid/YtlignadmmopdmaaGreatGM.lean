/- A part of the proof. -/
import Derived.Test.YtlignadmmopdmaaGreatGG
import Derived.Test.YtlignadmmopdmaaGreatGL
set_option linter.unusedVariables false
set_option linter.unusedSimpArgs false
set_option linter.constructorNameAsVariable false
namespace Go.Sl
theorem unfrM_framed{r:RecM}(hr:r.may)(hl:(recB r).length<256)(x:Bytes):unfrM (framed (recB r)++x)=(r,true):=by
 have e4:(framed (recB r)++x)[4]? =some (UInt8.ofNat (recB r).length):=by simp[framed,be4]
 have en:(UInt8.ofNat (recB r).length).toNat=(recB r).length:=by rw[UInt8.toNat_ofNat'];omega
 have d4:(framed (recB r)++x).drop 4=UInt8.ofNat (recB r).length::(recB r++x):=by simp[framed,be4]
 have d5:(framed (recB r)++x).drop 5=recB r++x:=by simp[framed,be4]
 unfold unfrM;rw[e4,Option.getD_some,en,if_neg (by rw[List.length_append,framed_len];omega),d4,d5];have t5:(UInt8.ofNat (recB r).length::(recB r++x)).take ((recB r).length+1)=UInt8.ofNat (recB r).length::recB r:=by simp
 have t6:(recB r++x).take (recB r).length=recB r:=by simp
 have es:ofBe4 (framed (recB r)++x)=sumM (UInt8.ofNat (recB r).length::recB r):=by
  unfold framed;rw[List.append_assoc];exact ofBe4_be4 (sumM_lt _) _
 rw[t5,t6,es,if_pos rfl,decM_some (recD_recB hr)];rfl
def recL(q t:Int)(s:Bytes):RecM:=⟨2,[q,t],[s]⟩
def headR(h t l:Int):RecM:=⟨3,[h,t,l],[]⟩
def goodL(r:RecM):Bool:=decide (r.kind=2)&&decide ((r.nums.length:Int)=2)&&decide ((r.texts.length:Int)=1)&&decide (((r.texts.getD 0 []).length:Int)≤110)
def okL'(b:Bytes):Bool:=(unfrM b).2&&goodL (unfrM b).1
def readL(b:Bytes):Option (Int × Int × Bytes):=if okL' b=true then some ((unfrM b).1.nums.getD 0 0,(unfrM b).1.nums.getD 1 0,(unfrM b).1.texts.getD 0 [])else none
def I63(n:Int):Prop:=0≤n∧n≤4611686018427388416
theorem recL_may{q t:Int}{s:Bytes}(hq:I63 q)(ht:I63 t)(hs:s.length≤110):(recL q t s).may:=by
 obtain⟨a,b⟩:=hq;obtain⟨c,d⟩:=ht;refine⟨by simp[recL],by simp[recL],by simp[recL],by simp[recL],fun x hx=>?_,fun n hn=>?_⟩
 ·simp only[recL,List.mem_cons,List.not_mem_nil,or_false]at hx;subst hx;omega
 ·simp only[recL,List.mem_cons,List.not_mem_nil,or_false]at hn;rcases hn with rfl|rfl<;>omega
theorem recL_len{q t:Int}{s:Bytes}(hq:I63 q)(ht:I63 t)(hs:s.length≤110):(recB (recL q t s)).length≤133:=by
 have h:=numsB_len (recL_may hq ht hs).num;have e:(recL q t s).nums.length=2:=rfl;rw[e]at h;have e2:(textsB (recL q t s).texts).length=1+s.length:=by simp[recL,textsB];omega
 simp only[recB,List.length_cons,List.length_append,e2];omega
theorem headR_may{h t l:Int}(hh:I63 h)(ht:I63 t)(hl:I63 l):(headR h t l).may:=by
 obtain⟨a,b⟩:=hh;obtain⟨c,d⟩:=ht;obtain⟨e,f⟩:=hl;refine⟨by simp[headR],by simp[headR],by simp[headR],by simp[headR],fun x hx=>by simp[headR]at hx,fun n hn=>?_⟩;simp only[headR,List.mem_cons,List.not_mem_nil,or_false]at hn;rcases hn with rfl|rfl|rfl<;>omega
theorem headR_len{h t l:Int}(hh:I63 h)(ht:I63 t)(hl:I63 l):(recB (headR h t l)).length≤100:=by
 have h1:=numsB_len (headR_may hh ht hl).num;have e:(headR h t l).nums.length=3:=rfl;rw[e]at h1;have e2:textsB (headR h t l).texts=[]:=rfl;simp only[recB,List.length_cons,List.length_append,e2,List.length_nil];omega
def frL(q t:Int)(s:Bytes):Bytes:=framed (recB (recL q t s))
theorem readL_fr{q t:Int}{s:Bytes}(hq:I63 q)(ht:I63 t)(hs:s.length≤110)(x:Bytes):readL (frL q t s++x)=some (q,t,s):=by
 have hl:=recL_len hq ht hs;have e:=unfrM_framed (recL_may hq ht hs) (by omega) x;unfold readL okL' frL;rw[e,if_pos]
 · rfl
 · simp[goodL,recL];omega
theorem readL_pad{q t:Int}{s:Bytes}(hq:I63 q)(ht:I63 t)(hs:s.length≤110):readL (pad (frL q t s))=some (q,t,s):=readL_fr hq ht hs _
theorem readL_zero:readL zsec=none:=by
 have e4:zsec[4]? =some 0:=by decide
 have e:unfrM zsec=(⟨0,[],[]⟩,false)∨(unfrM zsec).1.kind=0:=by
  unfold unfrM;rw[e4,Option.getD_some,show(0:UInt8).toNat=0 from rfl,if_neg (by simp[zsec])];have h0:decM ((zsec.drop 5).take 0)=(⟨0,[],[]⟩,4):=decM_none (recD_short (by simp));rw[h0];split
  · exact .inr rfl
  · exact .inl rfl
 unfold readL okL' goodL;rcases e with e|e
 ·rw[e];rfl
 ·rw[e,if_neg];simp
theorem readL_ok{b:Bytes}{q t:Int}{s:Bytes}(h:readL b=some (q,t,s)):s.length≤110:=by
 unfold readL at h;split at h
 ·rename_i hk
  unfold okL' goodL at hk;simp only[Bool.and_eq_true,decide_eq_true_eq]at hk;simp only[Option.some.injEq,Prod.mk.injEq]at h;obtain⟨_,_,rfl⟩:=h;omega
 ·cases h
structure LogM where
 first:Int
 n:Nat
 c:CellM
 head:Int
 time:Int
 least:Int
 l:List (Bytes × Int)
def LogM.tail(L:LogM):Int:=L.head+L.l.length
def LogM.place(L:LogM)(k:Int):Int:=L.first+k % L.n
def LogM.put(L:LogM)(D:Dev)(head least:Int):Int × LogM × Dev:=
 ((L.c.put D (recB (headR head L.time least))).1,{L with c:=(L.c.put D (recB (headR head L.time least))).2.1},(L.c.put D (recB (headR head L.time least))).2.2)
def LogM.append(L:LogM)(D:Dev)(s:Bytes):Int × LogM × Dev:=
 if 110<(s.length:Int)then(3,L,D)else if(L.n:Int)-L.l.length=0 then(12,L,D)else if 4611686018427387904≤L.tail then(23,L,D)else
 ((D.write (L.place L.tail) (frL L.tail L.time s)).1,if(D.write (L.place L.tail) (frL L.tail L.time s)).1=0 then{L with l:=L.l++[(s,L.time)]}else L,(D.write (L.place L.tail) (frL L.tail L.time s)).2)
def LogM.leastAt(L:LogM)(k:Int):Int:=if L.head<k then(L.l.getD (k-L.head- 1).toNat ([],0)).2 else L.least
def LogM.cut(L:LogM)(k:Int):LogM:={L with l:=L.l.drop (k-L.head).toNat,head:=k,least:=L.leastAt k}
def LogM.trim(L:LogM)(D:Dev)(k:Int):Int × LogM × Dev:=
 if within3 k L.head L.tail=false then(1,L,D)else
 if D.barrier.1≠0 then(D.barrier.1,L,D.barrier.2)else
 ((L.put D.barrier.2 k (L.leastAt k)).1,if(L.put D.barrier.2 k (L.leastAt k)).1=0 then(L.put D.barrier.2 k (L.leastAt k)).2.1.cut k else(L.put D.barrier.2 k (L.leastAt k)).2.1,(L.put D.barrier.2 k (L.leastAt k)).2.2)
/-- What lies in the cell. -/
def headOk(t:Bytes):Bool:=decide ((decM t).2=0)&&decide ((decM t).1.kind=3)&&decide (((decM t).1.nums.length:Int)=3)&&decide (((decM t).1.texts.length:Int)=0)&&
 within3 ((decM t).1.nums.getD 0 0) 1 4611686018427387904&&within3 ((decM t).1.nums.getD 1 0) 0 4611686018427387904&&within3 ((decM t).1.nums.getD 2 0) 0 4611686018427387904
def headOf(t:Bytes):Int × Int × Int:=if headOk t=true then((decM t).1.nums.getD 0 0,(decM t).1.nums.getD 1 0,(decM t).1.nums.getD 2 0)else(1,0,0)
def scanL(D:Dev)(first:Int)(n:Nat)(time:Int):Nat→Int→Int→List (Bytes × Int)
 |0,_,_=>[]
 |f+1,tail,lo=>match readL (D.sec (first+tail % n))with
  |some (q,t,s)=>if q=tail∧lo≤t∧t≤time then(s,t)::scanL D first n time f (tail+1) t else []
  |none=>[]
def inRing(first n s:Int):Prop:=first≤s∧s-first<n
instance (first n s:Int):Decidable (inRing first n s):=inferInstanceAs (Decidable (_∧_))
def logArg(D:Dev)(first n a b:Int):Prop:=n<2∨first<0∨(D.l.length:Int)<n∨(D.l.length:Int)-n<first∨inRing first n a∨inRing first n b
instance (D:Dev)(first n a b:Int):Decidable (logArg D first n a b):=inferInstanceAs (Decidable (_∨_))
def log0(D:Dev)(first:Int)(n:Nat)(a b:Int):LogM:=
 ⟨first,n,openC D a b,(headOf (openC D a b).text).1,(headOf (openC D a b).text).2.1+1,(headOf (openC D a b).text).2.2,
  scanL D first n (headOf (openC D a b).text).2.1 n (headOf (openC D a b).text).1 (headOf (openC D a b).text).2.2⟩
def logOpen(D:Dev)(first n a b:Int):Int × LogM × Dev:=
 if logArg D first n a b then(1,log0 D first n.toNat a b,D)else if openE D a b≠0 then(openE D a b,log0 D first n.toNat a b,D)else
 if(headOf (openC D a b).text).2.1=4611686018427387904 then(22,log0 D first n.toNat a b,D)else
 (log0 D first n.toNat a b).put D (log0 D first n.toNat a b).head (log0 D first n.toNat a b).least
theorem headOf_ok(t:Bytes):(1≤(headOf t).1∧(headOf t).1≤4611686018427387904)∧(0≤(headOf t).2.1∧(headOf t).2.1≤4611686018427387904)∧(0≤(headOf t).2.2∧(headOf t).2.2≤4611686018427387904):=by
 unfold headOf;split
 ·rename_i h
  unfold headOk within3 at h;simp only[Bool.and_eq_true,decide_eq_true_eq]at h;dsimp only;omega
 ·exact⟨by decide,by decide,by decide⟩
theorem headOf_rec{h t l:Int}(hh:1≤h∧h≤4611686018427387904)(ht:0≤t∧t≤4611686018427387904)(hl:0≤l∧l≤4611686018427387904):headOf (recB (headR h t l))=(h,t,l):=by
 have e:decM (recB (headR h t l))=(headR h t l,0):=decM_some (recD_recB (headR_may ⟨by omega,by omega⟩ ⟨by omega,by omega⟩ ⟨by omega,by omega⟩));unfold headOf headOk;rw[e,if_pos]
 · rfl
 · simp[headR,within3];omega
theorem headOf_nil:headOf []=(1,0,0):=rfl
structure LogM.ok(L:LogM)(D:Dev):Prop where
 n:2≤L.n
 first:0≤L.first∧L.first+L.n≤D.l.length
 c:L.c.ok D.l.length
 head:1≤L.head
 time:0≤L.time∧L.time≤4611686018427387904
 least:0≤L.least∧L.least≤4611686018427387904
 l:L.l.length≤L.n
 its: ∀x∈L.l,x.1.length≤110∧0≤x.2∧x.2≤4611686018427387904
 tail:L.tail≤4611686018427387904+L.n
 d:D.ok
theorem scanL_len{D:Dev}{first:Int}{n:Nat}{time:Int}: ∀(f:Nat) (tail lo:Int),(scanL D first n time f tail lo).length≤f
 |0,_,_=>Nat.le_refl _
 |f+1,tail,lo=>by
  unfold scanL;split
  ·split
   ·rename_i q t s _ _
    have:=scanL_len (D:=D) (first:=first) (n:=n) (time:=time) f (tail+1) t;simp only[List.length_cons];omega
   ·simp
  ·simp
theorem scanL_its{D:Dev}{first:Int}{n:Nat}{time:Int}: ∀(f:Nat) (tail lo:Int),0≤lo→ ∀x∈scanL D first n time f tail lo,x.1.length≤110∧0≤x.2∧x.2≤time
 |0,_,_,_,x,hx=>by cases hx
 |f+1,tail,lo,h0,x,hx=>by
  unfold scanL at hx;split at hx
  ·rename_i q t s hr
   split at hx
   ·rename_i hc
    rcases List.mem_cons.1 hx with rfl|hx
    · exact⟨readL_ok hr,by omega,by omega⟩
    · exact scanL_its f (tail+1) t (by omega) x hx
   ·cases hx
  ·cases hx
theorem log0_ok{D:Dev}{first a b:Int}{n:Nat}(hD:D.ok)(ha: ¬logArg D first n a b)(he:openE D a b=0)(ht:(headOf (openC D a b).text).2.1≠4611686018427387904):(log0 D first n a b).ok D:=by
 obtain⟨h1,h2,h3⟩:=headOf_ok (openC D a b).text;unfold logArg at ha;have hl:=scanL_len (D:=D) (first:=first) (n:=n) (time:=(headOf (openC D a b).text).2.1) n (headOf (openC D a b).text).1 (headOf (openC D a b).text).2.2;refine⟨by show 2≤n;omega,⟨by show 0≤first;omega,by show first+n≤_;omega⟩,(openC_ok he).1,h1.1,⟨by simp only[log0];omega,by simp only[log0];omega⟩,h3,hl,fun x hx=>?_,?_,hD⟩
 ·have:=scanL_its n _ _ h3.1 x hx;exact⟨this.1,this.2.1,by omega⟩
 ·unfold LogM.tail log0;dsimp only;omega
theorem LogM.put_ok{L:LogM}{D:Dev}(h:L.ok D)(head least:Int):(L.put D head least).2.1.ok (L.put D head least).2.2:=by
 have hp:=Go.Sl.put_ok h.c h.d (recB (headR head L.time least));unfold LogM.put;refine⟨h.n,?_,?_,h.head,h.time,h.least,h.l,h.its,h.tail,hp.2⟩
 · dsimp only;rw[put_l];exact h.first
 · dsimp only;rw[put_l];exact hp.1
theorem LogM.append_ok{L:LogM}{D:Dev}(h:L.ok D)(s:Bytes):(L.append D s).2.1.ok (L.append D s).2.2:=by
 unfold LogM.append;split
 ·exact h
 ·split
  ·exact h
  ·split
   ·exact h
   ·rename_i h1 h2 h3
    have hw:=Dev.write_ok h.d (L.place L.tail) (frL L.tail L.time s);dsimp only;split
    ·refine⟨h.n,by rw[write_l];exact h.first,by rw[write_l];exact h.c,h.head,h.time,h.least,?_,fun x hx=>?_,?_,hw⟩
     ·have:=h.l;simp only[List.length_append,List.length_singleton];omega
     ·dsimp only at hx;rcases List.mem_append.1 hx with hx|hx
      ·exact h.its x hx
      ·simp only[List.mem_singleton]at hx;subst hx;exact⟨by dsimp only;omega,h.time.1,h.time.2⟩
     ·unfold LogM.tail at h3 ⊢;have:=h.n;simp only[List.length_append,List.length_singleton];omega
    ·exact⟨h.n,by rw[write_l];exact h.first,by rw[write_l];exact h.c,h.head,h.time,h.least,h.l,h.its,h.tail,hw⟩
theorem leastAt_ok{L:LogM}{D:Dev}(h:L.ok D){k:Int}(hk:k≤L.tail):0≤L.leastAt k∧L.leastAt k≤4611686018427387904:=by
 unfold LogM.leastAt;split
 ·rename_i hlt
  unfold LogM.tail at hk;have hg:L.l[(k-L.head- 1).toNat]? =some (L.l.getD (k-L.head- 1).toNat ([],0)):=getd_get (by omega);have:=h.its _ (List.mem_of_getElem? hg);exact this.2
 ·exact h.least
theorem LogM.trim_ok{L:LogM}{D:Dev}(h:L.ok D)(k:Int):(L.trim D k).2.1.ok (L.trim D k).2.2:=by
 unfold LogM.trim;have hb:L.ok D.barrier.2:=⟨h.n,by rw[barrier_l];exact h.first,by rw[barrier_l];exact h.c,h.head,h.time,h.least,h.l,h.its,h.tail,Dev.barrier_ok h.d⟩;split
 ·exact h
 ·rename_i hw
  have hw2:L.head≤k∧k≤L.tail:=within3_iff.1 (by simpa using hw);split
  ·exact hb
  ·dsimp only;have hp:=LogM.put_ok hb k (L.leastAt k);split
   ·have hlo:=leastAt_ok h hw2.2;have htl:=h.tail;have hh:=h.head;refine⟨hp.n,hp.first,hp.c,?_,hp.time,hlo,?_,fun x hx=>hp.its x (List.mem_of_mem_drop hx),?_,hp.d⟩
    ·show 1≤k;omega
    ·show(L.l.drop _).length≤L.n;have:=h.l;simp only[List.length_drop];omega
    ·show k+((L.l.drop (k-L.head).toNat).length:Int)≤4611686018427387904+(L.n:Int);unfold LogM.tail at htl hw2;simp only[List.length_drop];omega
   ·exact hp
theorem okL_cons(b0 b1 b2 b3 b4:UInt8)(r:Bytes):okL' (b0::b1::b2::b3::b4::r)=(!decide (r.length+5<b4.toNat+5)&&(decide (sumM ((b4::r).take (b4.toNat+1))=ofBe4 (b0::b1::b2::b3::b4::r))&&(decide ((decM (r.take b4.toNat)).2=0)&&goodL (decM (r.take b4.toNat)).1))):=by
 unfold okL';rw[unfr_cons]
 by_cases h1:r.length+5<b4.toNat+5
 ·rw[if_pos h1];simp[h1]
 ·rw[if_neg h1]
  by_cases h2:sumM ((b4::r).take (b4.toNat+1))=ofBe4 (b0::b1::b2::b3::b4::r)
  · rw[if_pos h2,decide_eq_false h1,decide_eq_true h2];rfl
  · rw[if_neg h2,decide_eq_false h1,decide_eq_false h2];rfl
/-- A sector that is read, in numbers. -/
def UnL(b0 b1 b2 b3 b4:UInt8)(r:Bytes)(rc:RecM)(er:Int):Prop:=
 ¬sumM ((b4::r).take (b4.toNat+1))=ofBe4 (b0::b1::b2::b3::b4::r)∨ ¬er=0∨ ¬rc.kind=2∨ ¬(rc.nums.length:Int)=2∨ ¬(rc.texts.length:Int)=1
theorem okL_dich{b0 b1 b2 b3 b4:UInt8}{r:Bytes}(h: ¬r.length+5<b4.toNat+5):
  (UnL b0 b1 b2 b3 b4 r (decM (r.take b4.toNat)).1 (decM (r.take b4.toNat)).2→okL' (b0::b1::b2::b3::b4::r)=false)∧
  (¬UnL b0 b1 b2 b3 b4 r (decM (r.take b4.toNat)).1 (decM (r.take b4.toNat)).2→okL' (b0::b1::b2::b3::b4::r)=decide ((((decM (r.take b4.toNat)).1.texts.getD 0 []).length:Int)≤110))∧
  (okL' (b0::b1::b2::b3::b4::r)=true→(unfrM (b0::b1::b2::b3::b4::r)).1=(decM (r.take b4.toNat)).1):=by
 refine⟨fun hu=>?_,fun hu=>?_,fun hk=>?_⟩
 ·rw[okL_cons];unfold UnL at hu;unfold goodL;rcases hu with h1|h1|h1|h1|h1<;>rw[decide_eq_false h1]<;>simp only[Bool.false_and,Bool.and_false]
 ·rw[okL_cons];unfold UnL at hu;unfold goodL;rw[decide_eq_false h,decide_eq_true (p:=sumM _=_) (by omega),decide_eq_true (p:=(decM _).2=0) (by omega),decide_eq_true (p:=(decM _).1.kind=2) (by omega),decide_eq_true (p:=(_:Int)=2) (by omega),decide_eq_true (p:=(_:Int)=1) (by omega)];simp
 ·rw[okL_cons]at hk;simp only[Bool.and_eq_true,decide_eq_true_eq,Bool.not_eq_true',decide_eq_false_iff_not]at hk;rw[unfr_cons,if_neg h,if_pos hk.2.1]
theorem enc_may{r:RecM}(h:r.may):encM r=(recB r,0):=by unfold encM;rw[if_pos (mayB_of h)]
theorem headD_get0(l:List Bytes):l.headD []=l.getD 0 []:=by cases l<;>rfl
theorem okL_short{b0 b1 b2 b3 b4:UInt8}{r:Bytes}(h:r.length+5<b4.toNat+5):okL' (b0::b1::b2::b3::b4::r)=false:=by
 rw[okL_cons,decide_eq_true h];rfl
theorem readL_some{b:Bytes}(h:okL' b=true):readL b=some ((unfrM b).1.nums.getD 0 0,(unfrM b).1.nums.getD 1 0,(unfrM b).1.texts.getD 0 []):=by
 unfold readL;rw[if_pos h]
theorem readL_none{b:Bytes}(h:okL' b=false):readL b=none:=by
 unfold readL;rw[if_neg (by rw[h];decide)]
theorem okL_good{b:Bytes}(h:okL' b=true):(unfrM b).1.nums.length=2∧(unfrM b).1.texts.length=1:=by
 unfold okL' goodL at h;simp only[Bool.and_eq_true,decide_eq_true_eq]at h;omega
/-- The items, as they lie. -/
def itemsV(l:List (Bytes × Int)):List Value:=(l.map fun x=>[Value.string ⟨x.1.toArray⟩,.int .i64 x.2]).flatten
theorem itemsV_len(l:List (Bytes × Int)):(itemsV l).length=l.length*2:=by
 induction l with
 |nil=>rfl
 |cons x l ih=>simp only[itemsV,List.map_cons,List.flatten_cons,List.length_append,List.length_cons,List.length_nil]at ih ⊢;omega
theorem itemsV_app(l m:List (Bytes × Int)):itemsV (l++m)=itemsV l++itemsV m:=by simp[itemsV]
theorem itemsV_one(l:List (Bytes × Int)): ∀u∈itemsV l,u.oneCell'=true:=by
 intro u hu;simp only[itemsV,List.mem_flatten,List.mem_map]at hu;obtain⟨x,⟨y,_,rfl⟩,hx⟩:=hu;simp at hx;rcases hx with rfl|rfl<;>rfl
theorem itemsV_drop(l:List (Bytes × Int))(k:Nat):(itemsV l).drop (k*2)=itemsV (l.drop k):=by
 induction k generalizing l with
 |zero=>simp
 |succ k ih=>
  cases l with
  |nil=>simp[itemsV]
  |cons x l=>
   have:itemsV (x::l)=Value.string ⟨x.1.toArray⟩::Value.int .i64 x.2::itemsV l:=by simp[itemsV]
   rw[this,show(k+1)*2=k*2+2 by omega,List.drop_succ_cons,List.drop_succ_cons,List.drop_succ_cons,ih]
theorem itemsV_get1{l:List (Bytes × Int)}{k:Nat}{x:Bytes × Int}(h:l[k]? =some x):(itemsV l)[k*2+1]? =some (.int .i64 x.2):=by
 have e:=itemsV_drop l k;have:(itemsV l)[k*2+1]? =((itemsV l).drop (k*2))[1]? :=by rw[List.getElem?_drop]
 rw[this,e,List.drop_eq_getElem_cons (by exact(List.getElem?_eq_some_iff.1 h).1)];obtain⟨h1,h2⟩:=List.getElem?_eq_some_iff.1 h;rw[h2];rfl
theorem item_two{l:List (Bytes × Int)}{k:Nat}{x:Bytes × Int}(h:l[k]? =some x):((itemsV l).drop (k*2)).take 2=[.string ⟨x.1.toArray⟩,.int .i64 x.2]:=by
 rw[itemsV_drop,List.drop_eq_getElem_cons (by exact(List.getElem?_eq_some_iff.1 h).1)];obtain⟨h1,h2⟩:=List.getElem?_eq_some_iff.1 h;rw[h2];simp[itemsV]
theorem srcV [Env]{P:Program}{L:List Seg}{size m:Nat}{v:Value}{vs:List Value}(h:RdV L v m vs)(hl:vs.length=m*size):Src P L size v m vs:=by
 rcases h with⟨rfl,rfl,rfl⟩|⟨a,c,rfl,h3,h2⟩
 ·exact src_nil
 ·refine⟨hl,fun w hh=>⟨by simp[Builtin.lenOf],?_⟩⟩;refine run_firstCells_some w size m _ m c vs hl (fun j v hj=>?_)
  have hj':j<vs.length:=by
   rcases Nat.lt_or_ge j vs.length with h|h
   · exact h
   · rw[List.getElem?_eq_none h]at hj;cases hj
  have hm:m≠0:=fun h0=>by rw[h0,Nat.zero_mul]at hl;omega
  have hs:=h3 hm;have:=h2 w hh j hj';rw[List.getElem?_eq_getElem hj']at hj;cases hj;cases a;simp at hs;subst hs;rw[add_lit];exact this
theorem items_len{L:LogM}{D:Dev}(h:L.ok D):L.l.length≤512:=by
 have:=h.l;have:=h.first;have:=h.d.n;omega
theorem LogM.n_le{L:LogM}{D:Dev}(h:L.ok D):L.n≤512:=by
 have:=h.first;have:=h.d.n;omega
theorem LogM.first_le{L:LogM}{D:Dev}(h:L.ok D):L.first≤512:=by
 have:=h.first;have:=h.d.n;omega
theorem headOf_bad{t:Bytes}{rc:RecM}{er:Int}(hd:decM t=(rc,er))(h: ¬er=0∨ ¬rc.kind=3∨ ¬(rc.nums.length:Int)=3∨ ¬(rc.texts.length:Int)=0∨within3 (rc.nums.getD 0 0) 1 4611686018427387904=false∨within3 (rc.nums.getD 1 0) 0 4611686018427387904=false∨within3 (rc.nums.getD 2 0) 0 4611686018427387904=false):
  headOf t=(1,0,0):=by
 unfold headOf;rw[if_neg];unfold headOk;rw[hd];intro hk;simp only[Bool.and_eq_true,decide_eq_true_eq]at hk;obtain⟨⟨⟨⟨⟨⟨h1,h2⟩,h3⟩,h4⟩,h5⟩,h6⟩,h7⟩:=hk;rcases h with h|h|h|h|h|h|h
 ·exact h h1
 ·exact h h2
 ·exact h h3
 ·exact h h4
 ·rw[h5]at h;cases h
 ·rw[h6]at h;cases h
 ·rw[h7]at h;cases h
theorem headOf_good{t:Bytes}{rc:RecM}{er:Int}(hd:decM t=(rc,er))(h1:er=0)(h2:rc.kind=3)(h3:(rc.nums.length:Int)=3)(h4:(rc.texts.length:Int)=0)(h5:within3 (rc.nums.getD 0 0) 1 4611686018427387904=true)(h6:within3 (rc.nums.getD 1 0) 0 4611686018427387904=true)(h7:within3 (rc.nums.getD 2 0) 0 4611686018427387904=true):
  headOf t=(rc.nums.getD 0 0,rc.nums.getD 1 0,rc.nums.getD 2 0):=by
 unfold headOf;rw[if_pos]
 ·rw[hd]
 ·unfold headOk;rw[hd];simp only[Bool.and_eq_true,decide_eq_true_eq];exact⟨⟨⟨⟨⟨⟨h1,h2⟩,h3⟩,h4⟩,h5⟩,h6⟩,h7⟩
theorem scan_go{D:Dev}{first:Int}{n:Nat}{time:Int}{f:Nat}{tail lo q t:Int}{s:Bytes}(h:readL (D.sec (first+tail % n))=some (q,t,s))(hq:q=tail)(h1:lo≤t)(h2:t≤time):
  scanL D first n time (f+1) tail lo=(s,t)::scanL D first n time f (tail+1) t:=by
 rw[scanL,h];dsimp only;rw[if_pos ⟨hq,h1,h2⟩]
theorem scan_no{D:Dev}{first:Int}{n:Nat}{time:Int}{f:Nat}{tail lo:Int}(h:readL (D.sec (first+tail % n))=none):scanL D first n time f tail lo=[]:=by
 cases f with
 |zero=>rfl
 |succ f=>rw[scanL,h]
theorem scan_bad{D:Dev}{first:Int}{n:Nat}{time:Int}{f:Nat}{tail lo q t:Int}{s:Bytes}(h:readL (D.sec (first+tail % n))=some (q,t,s))(hc: ¬(q=tail∧lo≤t∧t≤time)):
  scanL D first n time f tail lo=[]:=by
 cases f with
 |zero=>rfl
 |succ f=>rw[scanL,h];dsimp only;rw[if_neg hc]
theorem LogM.bar_ok{L:LogM}{D:Dev}(h:L.ok D):L.ok D.barrier.2:=⟨h.n,by rw[barrier_l];exact h.first,by rw[barrier_l];exact h.c,h.head,h.time,h.least,h.l,h.its,h.tail,Dev.barrier_ok h.d⟩
theorem lg_put{D:Dev}{N:Nat}{a b:Int}{s:Bytes}(hU:Up D N)(hE:openE D a b=0)(hs:s.length≤100)(hg:(openC D a b).gen<4611686018427387904):
  ∃D',(openC D a b).put D s=(0,(openC D a b).next s,D')∧Up D' N∧D'.es=[]∧openC D' a b=(openC D a b).next s∧ ∀j:Int,0≤j→j<N→j≠a→j≠b→D'.sec j=D.sec j:=by
 have hC:=(openC_ok hE).1;rw[hU.len]at hC;obtain⟨D',h1,h2⟩:=put_good hU hC hs hg;exact⟨D',h1,h2.up,h2.es,open_next hU.len hE hs hg h2,fun j h0 hj ha hb=>put_else h2 h0 hj ha hb⟩
theorem lg_openE{D D':Dev}{N:Nat}{a b:Int}(h:Up D N)(h':Up D' N)(he:openE D a b=0):openE D' a b=0:=by
 unfold openE at he ⊢;rw[h.len]at he;rw[h'.len]
 by_cases c:a=b∨min a b<0∨(N:Int)≤max a b
 · rw[if_pos c]at he;cases he
 · rw[if_neg c,if_neg (by rw[h'.live];decide)]
theorem lg_arg{D D':Dev}{N:Nat}{f n a b:Int}(h:Up D N)(h':Up D' N)(he: ¬logArg D f n a b): ¬logArg D' f n a b:=by
 unfold logArg at he ⊢;rw[h'.len,←h.len];exact he
def chain:Int→List (Bytes × Int)→Int→Prop
 |lo,[],hi=>lo≤hi
 |lo,x::l,hi=>lo≤x.2∧chain x.2 l hi
theorem chain_le: ∀{l:List (Bytes × Int)} {lo hi:Int},chain lo l hi→lo≤hi
 | [],_,_,h=>h
 |_::_,_,_,h=>Int.le_trans h.1 (chain_le h.2)
theorem chain_up: ∀{l:List (Bytes × Int)} {lo hi hi':Int},chain lo l hi→hi≤hi'→chain lo l hi'
 | [],_,_,_,h,h2=>Int.le_trans h h2
 |_::_,_,_,_,h,h2=>⟨h.1,chain_up h.2 h2⟩
theorem chain_mem: ∀{l:List (Bytes × Int)} {lo hi:Int},chain lo l hi→ ∀x∈l,lo≤x.2∧x.2≤hi
 | [],_,_,_,_,hx=>by cases hx
 |y::l,lo,hi,h,x,hx=>by
  rcases List.mem_cons.1 hx with rfl|hx
  ·exact⟨h.1,chain_le h.2⟩
  ·have:=chain_mem h.2 x hx;exact⟨by have:=h.1;omega,this.2⟩
structure LDev(first:Int)(n:Nat)(a b:Int)(D:Dev)(N k:Nat)(h t le:Int)(l:List (Bytes × Int)):Prop where
 up:Up D N
 e:openE D a b=0
 gen:(openC D a b).gen≤k
 hd:headOf (openC D a b).text=(h,t,le)
 arg: ¬logArg D first n a b
 h1:1≤h
 ht:h+l.length≤1+k
 t0:0≤t∧t≤k
 le0:0≤le
 ll:l.length≤n
 ch:chain le l t
 sl: ∀x∈l,x.1.length≤110
 ring: ∀(i:Nat) (x:Bytes × Int),l[i]? =some x→D.sec (first+(h+i) % n)=pad (frL (h+i) x.2 x.1)
 old: ∀j:Int,0≤j→j<n→ ∀q t s,readL (D.sec (first+j))=some (q,t,s)→q<h+l.length
theorem LDev.lim{first:Int}{n:Nat}{a b:Int}{D:Dev}{N k:Nat}{h t le:Int}{l:List (Bytes × Int)}(g:LDev first n a b D N k h t le l):2≤n∧0≤first∧first+n≤N∧N≤512∧ ¬inRing first n a∧ ¬inRing first n b:=by
 have h1:=g.arg;unfold logArg at h1;have h2:=g.up.ok.n;have h3:=g.up.len;rw[h3]at h1 h2;refine⟨by omega,by omega,by omega,by omega,fun hx=>h1 (.inr (.inr (.inr (.inr (.inl hx))))),fun hx=>h1 (.inr (.inr (.inr (.inr (.inr hx)))))⟩
theorem LDev.up1{first:Int}{n:Nat}{a b:Int}{D:Dev}{N k:Nat}{h t le:Int}{l:List (Bytes × Int)}(g:LDev first n a b D N k h t le l):LDev first n a b D N (k+1) h t le l:=
 ⟨g.up,g.e,by have:=g.gen;omega,g.hd,g.arg,g.h1,by have:=g.ht;omega,by have:=g.t0;omega,g.le0,g.ll,g.ch,g.sl,g.ring,g.old⟩
theorem LDev.same{first:Int}{n:Nat}{a b:Int}{D D':Dev}{N k:Nat}{h t le:Int}{l:List (Bytes × Int)}(g:LDev first n a b D N k h t le l)(hU:Up D' N)
  (hs: ∀j:Int,0≤j→j<N→(j=a∨j=b∨inRing first n j)→D'.sec j=D.sec j):LDev first n a b D' N k h t le l:=by
 obtain⟨l1,l2,l3,l4,l5,l6⟩:=g.lim;have hC:=(openC_ok g.e).1;have e2:=openC_ab D a b;have ha:=hC.a;have hb:=hC.b;rw[e2.1,g.up.len]at ha;rw[e2.2,g.up.len]at hb;have ho:openC D' a b=openC D a b:=open_same (hs a ha.1 ha.2 (.inl rfl)) (hs b hb.1 hb.2 (.inr (.inl rfl)));have hr: ∀j:Int,0≤j→j<n→D'.sec (first+j)=D.sec (first+j):=fun j h0 h1=>hs _ (by omega) (by omega) (.inr (.inr ⟨by omega,by omega⟩))
 refine⟨hU,lg_openE g.up hU g.e,by rw[ho];exact g.gen,by rw[ho];exact g.hd,lg_arg g.up hU g.arg,g.h1,g.ht,g.t0,g.le0,g.ll,g.ch,g.sl,fun i x hx=>?_,fun j h0 h1 q t s hq=>?_⟩
 ·rw[hr _ (Int.emod_nonneg _ (by omega)) (Int.emod_lt_of_pos _ (by omega))];exact g.ring i x hx
 ·rw[hr j h0 h1]at hq;exact g.old j h0 h1 q t s hq
/-- What is scanned is what lies there. -/
theorem scan_all{D:Dev}{first:Int}{n:Nat}{T:Int}(hn:0<n): ∀(l:List (Bytes × Int)) (f:Nat) (tail lo:Int),l.length≤f→I63 tail→tail+l.length≤4611686018427388416→0≤lo→T≤4611686018427388416→chain lo l T→(∀x∈l,x.1.length≤110)→
  (∀(i:Nat) (x:Bytes × Int),l[i]? =some x→D.sec (first+(tail+i) % n)=pad (frL (tail+i) x.2 x.1))→(∀j:Int,0≤j→j<n→ ∀q t s,readL (D.sec (first+j))=some (q,t,s)→q<tail+l.length)→
  scanL D first n T f tail lo=l
 | [],f,tail,lo,_,_,_,_,_,_,_,_,ho=>by
  cases hr:readL (D.sec (first+tail % n))with
  |none=>exact scan_no hr
  |some v=>
   obtain⟨q,t,s⟩:=v;have:=ho (tail % n) (Int.emod_nonneg _ (by omega)) (Int.emod_lt_of_pos _ (by omega)) q t s hr;exact scan_bad hr (by simp at this;omega)
 |x::l,0,_,_,hf,_,_,_,_,_,_,_,_=>by simp at hf
 |x::l,f+1,tail,lo,hf,ht,htl,h0,hT,hc,hs,hr,ho=>by
  have h1:=hr 0 x rfl;have hxT:=chain_mem hc x (by simp);have htt:I63 tail:=ht
  have e1:readL (D.sec (first+tail % n))=some (tail,x.2,x.1):=by
   have:tail+((0:Nat):Int)=tail:=by simp
   rw[this]at h1;rw[h1];exact readL_pad ht ⟨by omega,by omega⟩ (hs x (by simp))
  rw[scan_go e1 rfl hxT.1 hxT.2];simp only[List.length_cons]at hf htl ho
  have:=scan_all hn l f (tail+1) x.2 (by omega) ⟨by have:=ht.1;omega,by omega⟩ (by omega) (by omega) hT hc.2 (fun y hy=>hs y (by simp[hy])) (fun i y hy=>by
   have:=hr (i+1) y (by simpa using hy);rw[show tail+1+(i:Int)=tail+((i+1:Nat):Int)by omega];exact this) (fun j a b q t s hq=>by have:=ho j a b q t s hq;omega)
  rw[this]
/-- The cell is put anew. -/
theorem LDev.put{first:Int}{n:Nat}{a b:Int}{D:Dev}{N k:Nat}{h t le:Int}{l:List (Bytes × Int)}(g:LDev first n a b D N k h t le l)(hk:k<4611686018427387000){h' t' le':Int}{l':List (Bytes × Int)}
  (hh:1≤h') (hh2:h'+l'.length≤1+((k+1:Nat):Int)) (htt:0≤t'∧t'≤(k+1:Nat)) (hle:0≤le') (hll:l'.length≤n) (hch:chain le' l' t') (hsl: ∀x∈l',x.1.length≤110)
  (hr: ∀(i:Nat) (x:Bytes × Int),l'[i]? =some x→D.sec (first+(h'+i) % n)=pad (frL (h'+i) x.2 x.1)) (ho: ∀j:Int,0≤j→j<n→ ∀q t s,readL (D.sec (first+j))=some (q,t,s)→q<h'+l'.length):
  ∃D',(openC D a b).put D (recB (headR h' t' le'))=(0,openC D' a b,D')∧LDev first n a b D' N (k+1) h' t' le' l'∧ ∀j:Int,0≤j→j<N→j≠a→j≠b→D'.sec j=D.sec j:=by
 obtain⟨l1,l2,l3,l4,l5,l6⟩:=g.lim;have hc:=chain_le hch;have hlen:=headR_len (h:=h') (t:=t') (l:=le') ⟨by omega,by omega⟩ ⟨by omega,by omega⟩ ⟨by omega,by omega⟩;have hg:=g.gen;obtain⟨D',p1,p2,p3,p4,p5⟩:=lg_put g.up g.e hlen (by omega);have hrs: ∀j:Int,0≤j→j<n→D'.sec (first+j)=D.sec (first+j):=fun j h0 h1=>p5 _ (by omega) (by omega) (fun e=>l5 (by rw[←e];exact⟨by omega,by omega⟩)) (fun e=>l6 (by rw[←e];exact⟨by omega,by omega⟩))
 refine⟨D',by rw[p1,p4],⟨p2,lg_openE g.up p2 g.e,by rw[p4];show(openC D a b).gen+1≤_;omega,?_,lg_arg g.up p2 g.arg,hh,hh2,htt,hle,hll,hch,hsl,fun i x hx=>?_,fun j h0 h1 q t s hq=>?_⟩,p5⟩
 ·rw[p4];exact headOf_rec ⟨by omega,by omega⟩ ⟨by omega,by omega⟩ ⟨by omega,by omega⟩
 ·rw[hrs _ (Int.emod_nonneg _ (by omega)) (Int.emod_lt_of_pos _ (by omega))];exact hr i x hx
 ·rw[hrs j h0 h1]at hq;exact ho j h0 h1 q t s hq
/-- Opened anew a log is the same, but for its time. -/
theorem LDev.opened{first:Int}{n:Nat}{a b:Int}{D:Dev}{N k:Nat}{h t le:Int}{l:List (Bytes × Int)}(g:LDev first n a b D N k h t le l)(hk:k<4611686018427387000):
  ∃D',logOpen D first n a b=(0,⟨first,n,openC D' a b,h,t+1,le,l⟩,D')∧LDev first n a b D' N (k+1) h (t+1) le l∧ ∀j:Int,0≤j→j<N→j≠a→j≠b→D'.sec j=D.sec j:=by
 obtain⟨l1,l2,l3,l4,l5,l6⟩:=g.lim;have h1:=g.h1;have h2:=g.ht;have h3:=g.t0;have h4:=g.le0;have h5:=chain_le g.ch;have hsc:scanL D first n t n h le=l:=scan_all (by omega) l n h le g.ll ⟨by omega,by omega⟩ (by omega) h4 (by omega) g.ch g.sl g.ring g.old
 have hl0:log0 D first (n:Int).toNat a b=⟨first,n,openC D a b,h,t+1,le,l⟩:=by
  unfold log0;rw[g.hd];show(⟨first,n,openC D a b,h,t+1,le,scanL D first n t n h le⟩:LogM)=_;rw[hsc]
 obtain⟨D',p1,p2,p3⟩:=g.put hk (h':=h) (t':=t+1) (le':=le) (l':=l) h1 (by omega) ⟨by omega,by omega⟩ h4 g.ll (chain_up g.ch (by omega)) g.sl g.ring g.old;refine⟨D',?_,p2,p3⟩;unfold logOpen;rw[if_neg g.arg,if_neg (by rw[g.e];decide),if_neg (by rw[g.hd];dsimp only;omega),hl0];unfold LogM.put;dsimp only;rw[p1]
theorem new_ldev{N n:Nat}{first a b:Int}(hN:N≤512)(hn:2≤n)(hf:0≤first∧first+n≤N)(hab:a≠b)(ha:0≤a∧a<N)(hb:0≤b∧b<N)(hra: ¬inRing first n a)(hrb: ¬inRing first n b):LDev first n a b (Dev.new N) N 0 1 0 0 []:=by
 have hU:=new_up hN;have ho:=open_new (n:=N) ha.1 ha.2 hb.1 hb.2;refine⟨hU,openE_up hU hab ha hb,by rw[ho];exact Int.le_refl _,by rw[ho];exact headOf_nil,?_,Int.le_refl _,by simp,⟨Int.le_refl _,Int.le_refl _⟩,Int.le_refl _,Nat.zero_le _,Int.le_refl _,fun x hx=>(by cases hx),fun i x hx=>(by simp at hx),fun j h0 h1 q t s hq=>?_⟩
 ·unfold logArg;rw[hU.len];rintro(h|h|h|h|h|h)
  · omega
  · omega
  · omega
  · omega
  · exact hra h
  · exact hrb h
 ·rw[sec_new (n:=N) (by omega) (by omega),readL_zero]at hq;cases hq
theorem LDev.aside{first:Int}{n:Nat}{a b:Int}{D D':Dev}{N k:Nat}{h t le:Int}{l:List (Bytes × Int)}(g:LDev first n a b D N k h t le l)(hU:Up D' N)
  (hs: ∀j:Int,0≤j→j<N→(j=a∨j=b∨inRing first n j)→D'.sec j=D.sec j):LDev first n a b D' N k h t le l∧openC D' a b=openC D a b:=by
 have hC:=(openC_ok g.e).1;have e2:=openC_ab D a b;have ha:=hC.a;have hb:=hC.b;rw[e2.1,g.up.len]at ha;rw[e2.2,g.up.len]at hb;exact⟨g.same hU hs,open_same (hs a ha.1 ha.2 (.inl rfl)) (hs b hb.1 hb.2 (.inr (.inl rfl)))⟩
end Go.Sl