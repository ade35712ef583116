/- A part of the proof. -/
import Derived.Test.YtlignadmmopdmaaGreatNodT
set_option linter.unusedVariables false
set_option linter.unusedSimpArgs false
set_option linter.constructorNameAsVariable false
namespace Go.Sl
theorem numD_canon: ∀(r:Bytes) (k:Nat) (q:Nat × Bytes),numD k r=some q→r=numB q.1++q.2∧(0<k→0<q.1)
 | [],k,q,h=>by simp[numD]at h
 |x::r,k,q,h=>by
  unfold numD at h;split at h
  ·cases h
  rename_i h1
  split at h
  ·rename_i h2
   cases h;refine⟨?_,fun hk=>?_⟩
   · unfold numB;rw[if_pos h2];simp
   · show 0<x.toNat;omega
  ·rename_i h2
   split at h
   · cases h
   rename_i p hp
   cases h;obtain⟨e,hpos⟩:=numD_canon r (k+1) p hp;have hx:=x.toNat_lt;have hp0:=hpos (by omega);refine⟨?_,fun _=>by show 0<x.toNat- 128+128*p.1;omega⟩;show x::r=numB (x.toNat- 128+128*p.1)++p.2;unfold numB;rw[if_neg (by omega),show(x.toNat- 128+128*p.1) / 128=p.1 by omega,show(x.toNat- 128+128*p.1) % 128+128=x.toNat by omega];simp[←e]
theorem nfact_may{e:Int}(h:N62 e):(⟨50,[e],[]⟩:RecM).may:=by
 have a:=h.1;have b:=h.2;refine⟨(by decide:(0:Int)≤50),(by decide:(50:Int)≤255),(by decide:1≤16),(by decide:0≤4),fun t ht=>(by cases ht),fun z hz=>?_⟩;simp only[List.mem_cons,List.not_mem_nil,or_false]at hz;subst hz;omega
theorem factB_eq{e:Int}(h:N62 e):factB e=recB ⟨50,[e],[]⟩:=by unfold factB;rw[enc_may (nfact_may h)]
theorem fact_factB{e:Int}(h:N62 e):fact (factB e)=some e:=by
 rw[factB_eq h];unfold fact;rw[decM_some (recD_recB (nfact_may h)),if_pos ⟨rfl,rfl,rfl,rfl,h.1,h.2⟩];rfl
theorem factB_len{e:Int}(h:N62 e):(factB e).length≤100:=by
 rw[factB_eq h];have:=numB_10 h;simp[recB,numsB,textsB];omega
/-- Facts' bytes are the only ones that say so. -/
theorem factB_fact{s:Bytes}{e:Int}(h:fact s=some e):s=factB e:=by
 have hN:=fact_in h;rw[factB_eq hN];unfold fact at h;split at h;rotate_left
 ·cases h
 rename_i hc
 obtain⟨h1,h2,h3,h4,-,-⟩:=hc;have hd:=decM_zero h1;generalize hr:(decM s).1=r at*;obtain⟨k,ns,ts⟩:=r;dsimp only at h2 h3 h4 h;subst h2
 obtain⟨n,rfl⟩: ∃n,ns=[n]:=by
  match ns,h3 with
  | [n],_=>exact⟨n,rfl⟩
 obtain rfl:ts=[]:=List.eq_nil_of_length_eq_zero h4;cases h
 match s,hd with
 | [],hd=>cases hd
 | [a],hd=>cases hd
 |a::b::r,hd=>
  by_cases c1:4<headT b.toNat
  ·rw[recD_many c1]at hd;cases hd
  cases hq:numsD (headN b.toNat) r with
  |none=>rw[recD_nums c1 hq]at hd;cases hd
  |some q=>
  obtain⟨ns,b2⟩:=q;cases ht:textsD (headT b.toNat) b2 with
  |none=>rw[recD_texts c1 hq ht]at hd;cases hd
  |some q=>
  obtain⟨ts,b3⟩:=q
  by_cases c2:b3=[]
  rotate_left
  ·rw[recD_more c1 hq ht c2]at hd;cases hd
  subst c2;rw[recD_some c1 hq ht]at hd;simp only[Option.some.injEq,RecM.mk.injEq]at hd;obtain⟨d1,d2,d3⟩:=hd;subst d2 d3;have hb:=b.toNat_lt
  -- how many numbers
  have hl:headN b.toNat=1:=by
   have: ∀(n:Nat) (r:Bytes) (q:List Int × Bytes),numsD n r=some q→q.1.length=n:=by
    intro n;induction n with
    |zero=>intro r q h;cases h;rfl
    |succ n ih=>
     intro r q h;unfold numsD at h;split at h
     ·cases h
     ·split at h
      · cases h
      · rename_i t ht;cases h;simp[ih _ _ ht]
   exact(this _ _ _ hq).symm
  have htl:headT b.toNat=0:=by
   have: ∀(n:Nat) (r:Bytes) (q:List Bytes × Bytes),textsD n r=some q→q.1.length=n:=by
    intro n;induction n with
    |zero=>intro r q h;cases h;rfl
    |succ n ih=>
     intro r q h;unfold textsD at h;split at h
     ·cases h
     ·split at h
      · cases h
      · rename_i t ht;cases h;simp[ih _ _ ht]
   exact(this _ _ _ ht).symm
  have hb1:b=1:=by
   unfold headN at hl;unfold headT at htl;split at hl
   ·omega
   ·rename_i c;rw[if_neg c]at htl;exact UInt8.toNat_inj.1 (show b.toNat=1 by omega)
  rw[hl]at hq;rw[htl]at ht;cases ht;unfold numsD at hq;cases hp:numD 0 r with
  |none=>rw[hp]at hq;cases hq
  |some p=>
  rw[hp]at hq;obtain⟨u,b4⟩:=p;simp only[numsD,Option.some.injEq,Prod.mk.injEq,List.cons.injEq,and_true]at hq;obtain⟨rfl,rfl⟩:=hq;obtain⟨e1,-⟩:=numD_canon _ _ _ hp;have ha:a=50:=UInt8.toNat_inj.1 (by have:(a.toNat:Int)=50:=d1;show a.toNat=50;omega);subst ha hb1;rw[e1];simp[recB,numsB,textsB,headB,zig_zag]
def facEs(e0:Int):List Int:=[0,1,2,7,4611686018427387904,e0]
theorem known_fact{text:Bytes}{e0:Int}(h:e0=(fact text).getD 0):(facEs e0).any (fun e=>decide (text=factB e))=(fact text).isSome:=by
 cases hf:fact text with
 |none=>
  have he:e0=0:=by rw[h,hf];rfl
  subst he;refine Bool.eq_false_iff.2 fun hx=>?_
  obtain⟨e,he,hd⟩:=List.any_eq_true.1 hx
  have hN:N62 e:=by
   simp only[facEs,List.mem_cons,List.not_mem_nil,or_false]at he;rcases he with rfl|rfl|rfl|rfl|rfl|rfl<;>exact⟨by decide,by decide⟩
  rw[of_decide_eq_true hd,fact_factB hN]at hf;cases hf
 |some e=>
  have he:e0=e:=by rw[h,hf];rfl
  subst he;exact List.any_eq_true.2 ⟨e0,by simp[facEs],decide_eq_true (factB_fact hf)⟩
theorem known_N{text:Bytes}{e0:Int}(h:e0=(fact text).getD 0): ∀e∈facEs e0,N62 e:=by
 intro e he
 have h0:N62 e0:=by
  rw[h];cases hf:fact text with
  |none=>exact NodM.n620
  |some e=>exact fact_in hf
 simp only[facEs,List.mem_cons,List.not_mem_nil,or_false]at he;rcases he with rfl|rfl|rfl|rfl|rfl|rfl<;>first|exact h0|exact⟨by decide,by decide⟩
theorem ca_empty{n N k:Nat}{D:Dev}{h t le:Int}(g:LDev 6 n 4 5 D N k h t le [])(hk:k<1000)(hn:8≤n):
  (caOpen D 6 n 4 5 4).1=0∧LDev 6 n 4 5 (caOpen D 6 n 4 5 4).2.2 N (k+1) h (t+1) le []∧ ∀j:Int,0≤j→j<N→j≠4→j≠5→(caOpen D 6 n 4 5 4).2.2.sec j=D.sec j:=by
 obtain⟨D',h1,h2,h3⟩:=g.opened (by omega);unfold caOpen;rw[if_neg (by omega),h1];exact⟨rfl,h2,h3⟩
theorem nodFact_none{n:NodM}(h:fact n.f.text=none):nodFact n=(0,{n with lost:=true}):=by unfold nodFact;rw[h]
theorem nodFact_some{n:NodM}{e:Int}(h:fact n.f.text=some e):nodFact n=NodM.boot {n with epoch:=e} e:=by unfold nodFact;rw[h]
structure NdD(D:Dev)(N k:Nat):Prop where
 g: ∃h t le,LDev 6 (N- 6) 4 5 D N k h t le []
 gen:(openC D 0 1).gen≤k
theorem NdD.up{D:Dev}{N k:Nat}(g:NdD D N k):Up D N:=by obtain⟨h,t,le,h1⟩:=g.g;exact h1.up
theorem nd_put{D:Dev}{N k:Nat}(g:NdD D N k)(hN:16≤N∧N≤40)(hk:k<1000){e:Int}(he:N62 e):
  ((openC D 0 1).put D (factB e)).1=0∧((openC D 0 1).put D (factB e)).2.1.gen≤k+1∧NdD ((openC D 0 1).put D (factB e)).2.2 N (k+1)∧(openC ((openC D 0 1).put D (factB e)).2.2 0 1).text=factB e:=by
 have hg:=g.gen;have hU:=g.up;obtain⟨D',h1,h2,h3,h4,h5⟩:=lg_put (a:=0) (b:=1) (s:=factB e) hU (openE_up hU (by decide) (by omega) (by omega)) (factB_len he) (by omega);rw[h1];obtain⟨h,t,le,g1⟩:=g.g;refine⟨rfl,by show(openC D 0 1).gen+1≤_;omega,⟨⟨h,t,le,(g1.aside h2 fun j h0 hj hc=>h5 j h0 hj ?_ ?_).1.up1⟩,?_⟩,?_⟩
 ·rcases hc with hc|hc|hc
  · omega
  · omega
  · unfold inRing at hc;omega
 ·rcases hc with hc|hc|hc
  · omega
  · omega
  · unfold inRing at hc;omega
 ·rw[h4];show(openC D 0 1).gen+1≤_;omega
 ·rw[h4];rfl
theorem nd_open{D:Dev}{N k:Nat}(g:NdD D N k)(hN:16≤N∧N≤40)(hk:k<900):
  (nodOpen 1 5 D 4 5 5).1=0∧(nodOpen 1 5 D 4 5 5).2.lost=(fact (openC D 0 1).text).isNone∧(nodOpen 1 5 D 4 5 5).2.epoch=(fact (openC D 0 1).text).getD 0∧NdD (nodOpen 1 5 D 4 5 5).2.d N (k+2)∧
  (fact (openC D 0 1).text=none→ ∀j:Int,0≤j→j<2→(nodOpen 1 5 D 4 5 5).2.d.sec j=D.sec j):=by
 obtain⟨h,t,le,g1⟩:=g.g;have hU:=g.up;obtain⟨a1,a2,a3⟩:=ca_empty g1 (by omega) (by omega);have hl:((D.l.length:Int)- 6)=((N- 6:Nat):Int):=by rw[hU.len];omega
 unfold nodOpen;rw[if_neg (by unfold nodArg;decide),if_neg (by rw[openE_up hU (by decide) (by omega) (by omega)];decide),if_neg (by unfold drlE;rw[if_neg (by decide),openE_up hU (by decide) (by omega) (by omega)];decide),hl,if_neg (by rw[a1];decide)];generalize hD':caOpen D 6 ((N- 6:Nat):Int) 4 5 4=r at*;obtain⟨_,C,D'⟩:=r;dsimp only at a1 a2 a3 ⊢;have hs:=open_same (D:=D) (D':=D') (a:=0) (b:=1) (a3 0 (by decide) (by omega) (by decide) (by decide)) (a3 1 (by decide) (by omega) (by decide) (by decide));have g2:NdD D' N (k+1):=⟨⟨h,t+1,le,a2⟩,by rw[hs];have:=g.gen;omega⟩;cases hf:fact (openC D 0 1).text with
 |none=>
  rw[nodFact_none hf];refine⟨rfl,rfl,rfl,?_,fun _ j h0 h1=>a3 j h0 (by omega) (by omega) (by omega)⟩;obtain⟨⟨h,t,le,g3⟩,g4⟩:=g2;exact⟨⟨h,t,le,g3.up1⟩,by show(openC D' 0 1).gen≤_;omega⟩
 |some e=>
  have he:=fact_in hf;obtain⟨p1,p2,p3,p4⟩:=nd_put g2 hN (by omega) he;rw[hs]at p1 p2 p3 p4;have hb:=p2;rw[nodFact_some hf];refine⟨?_,?_,?_,?_,fun h=>by cases h⟩
  ·show(NodM.boot _ e).1=0;unfold NodM.boot;dsimp only[nodNew];rw[if_neg (by rw[p1];decide),if_neg (by omega)]
  ·show(NodM.boot _ e).2.lost=false;exact congrArg (·.2.2) (boot_who _ e)
  ·show(NodM.boot _ e).2.epoch=e;unfold NodM.boot;dsimp only[nodNew];rw[if_neg (by rw[p1];decide),if_neg (by omega)]
  ·show NdD (NodM.boot _ e).2.d N (k+2);unfold NodM.boot;dsimp only[nodNew];rw[if_neg (by rw[p1];decide),if_neg (by omega)];exact p3
theorem nd_new{N:Nat}(hN:16≤N∧N≤40):NdD (Dev.new N) N 0:=
 ⟨⟨0+1,0,0,new_ldev (by omega) (by omega) (by omega) (by decide) (by omega) (by omega) (by unfold inRing;omega) (by unfold inRing;omega)⟩,by rw[open_new (by decide) (by omega) (by decide) (by omega)];exact Int.le_refl _⟩
/-- What the law asks: opened, written to, opened, formatted, opened. -/
structure FactRun(N:Nat)(text:Bytes):Prop where
 a:(nodOpen 1 5 (Dev.new N) 4 5 5).1=0
 al:(nodOpen 1 5 (Dev.new N) 4 5 5).2.lost=true
 b:(nodOpen 1 5 ((nodOpen 1 5 (Dev.new N) 4 5 5).2.d.write 0 (slotM 1 text)).2 4 5 5).1=0
 bl:(nodOpen 1 5 ((nodOpen 1 5 (Dev.new N) 4 5 5).2.d.write 0 (slotM 1 text)).2 4 5 5).2.lost=(fact text).isNone
 be:(nodOpen 1 5 ((nodOpen 1 5 (Dev.new N) 4 5 5).2.d.write 0 (slotM 1 text)).2 4 5 5).2.epoch=(fact text).getD 0
 f:(nodFormat (nodOpen 1 5 ((nodOpen 1 5 (Dev.new N) 4 5 5).2.d.write 0 (slotM 1 text)).2 4 5 5).2.d).1=0
 c:(nodOpen 1 5 (nodFormat (nodOpen 1 5 ((nodOpen 1 5 (Dev.new N) 4 5 5).2.d.write 0 (slotM 1 text)).2 4 5 5).2.d).2 4 5 5).1=0
 cl:(nodOpen 1 5 (nodFormat (nodOpen 1 5 ((nodOpen 1 5 (Dev.new N) 4 5 5).2.d.write 0 (slotM 1 text)).2 4 5 5).2.d).2 4 5 5).2.lost=false
 ce:(nodOpen 1 5 (nodFormat (nodOpen 1 5 ((nodOpen 1 5 (Dev.new N) 4 5 5).2.d.write 0 (slotM 1 text)).2 4 5 5).2.d).2 4 5 5).2.epoch=0
theorem fact_run{N:Nat}(hN:16≤N∧N≤40){text:Bytes}(ht:text.length≤100):FactRun N text:=by
 have g0:=nd_new hN;obtain⟨a1,a2,a3,a4,a5⟩:=nd_open g0 hN (by decide);have hn:openC (Dev.new N) 0 1=CellM.init 0 1:=open_new (by decide) (by omega) (by decide) (by omega);have h0:fact (openC (Dev.new N) 0 1).text=none:=by rw[hn];decide
 have a6:=a5 h0;rw[h0]at a2;generalize hr1:nodOpen 1 5 (Dev.new N) 4 5 5=r1 at*;have hU:=a4.up;have hso:slotOk 1 text=true:=slotOk_iff.2 ⟨by decide,by decide,ht⟩;have hsl:=slotM_le 1 text;have hw:(r1.2.d.write 0 (slotM 1 text)).1=0:=by rw[hU.write,if_neg (by omega),if_neg (by omega)]
 have hw0:=(hU.sec_write_same hw).1;have hw1: ∀j:Int,j≠0→(r1.2.d.write 0 (slotM 1 text)).2.sec j=r1.2.d.sec j:=fun j hj=>hU.sec_write_other (Ne.symm hj) _
 have hU2:=hU.write_up 0 (slotM 1 text);generalize hD2:(r1.2.d.write 0 (slotM 1 text)).2=D2 at*
 have ho:openC D2 0 1=⟨0,1,0,1,text⟩:=by
  unfold openC;rw[hw0,hw1 1 (by decide),a6 1 (by decide) (by decide),sec_new (by decide) (by omega),readM_pad hso,readM_zero];rfl
 have g2:NdD D2 N 2:=by
  obtain⟨⟨h,t,le,g3⟩,g4⟩:=a4;refine⟨⟨h,t,le,(g3.aside hU2 fun j h0 hj hc=>hw1 j ?_).1⟩,by rw[ho];show(1:Int)≤2;decide⟩;rcases hc with hc|hc|hc
  · omega
  · omega
  · unfold inRing at hc;omega
 obtain⟨b1,b2,b3,b4,-⟩:=nd_open g2 hN (by decide);rw[ho]at b2 b3;generalize hr2:nodOpen 1 5 D2 4 5 5=r2 at*;obtain⟨f1,f2,f3,f4⟩:=nd_put b4 hN (by decide) NodM.n620
 have hf:nodFormat r2.2.d=(((openC r2.2.d 0 1).put r2.2.d (factB 0)).1,((openC r2.2.d 0 1).put r2.2.d (factB 0)).2.2):=by
  unfold nodFormat;rw[if_neg (by rw[openE_up b4.up (by decide) (by omega) (by omega)];decide)]
 obtain⟨c1,c2,c3,-,-⟩:=nd_open f3 hN (by decide);rw[f4,fact_factB NodM.n620]at c2 c3;subst hr2 hD2 hr1;exact⟨a1,a2,b1,b2,b3,by rw[hf];exact f1,by rw[hf];exact c1,by rw[hf];exact c2,by rw[hf];exact c3⟩
end Go.Sl