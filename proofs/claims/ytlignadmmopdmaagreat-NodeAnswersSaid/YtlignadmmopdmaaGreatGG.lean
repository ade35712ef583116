/- A part of the proof. -/
import Derived.Test.YtlignadmmopdmaaGreatGF
import Derived.Test.YtlignadmmopdmaaGreatGE
set_option linter.unusedVariables false
set_option linter.unusedSimpArgs false
set_option linter.constructorNameAsVariable false
namespace Go.Sl
def be4(n:Nat):Bytes:=[UInt8.ofNat (n / 16777216 % 256),UInt8.ofNat (n / 65536 % 256),UInt8.ofNat (n / 256 % 256),UInt8.ofNat (n % 256)]
def ofBe4:Bytes→Nat
 |a::b::c::d::_=>a.toNat*16777216+b.toNat*65536+c.toNat*256+d.toNat
 |_=>0
def be4V(n:Nat):List Value:=[.int .u8 ((n / 16777216 % 256:Nat):Int),.int .u8 ((n / 65536 % 256:Nat):Int),.int .u8 ((n / 256 % 256:Nat):Int),.int .u8 ((n % 256:Nat):Int)]
theorem be4V_eq(n:Nat):be4V n=bytesV (be4 n):=by
 simp[be4V,be4,bytesV,UInt8.toNat_ofNat']
def framed(rec:Bytes):Bytes:=be4 (sumM (UInt8.ofNat rec.length::rec))++(UInt8.ofNat rec.length::rec)
def slotR(gen:Int)(s:Bytes):RecM:=⟨1,[gen],[s]⟩
def slotOk(gen:Int)(s:Bytes):Bool:= !(decide (gen<1)||decide (4611686018427387904<gen)||decide (100<(s.length:Int)))
def slotM(gen:Int)(s:Bytes):Bytes:=if slotOk gen s then framed (recB (slotR gen s))else []
theorem slotOk_iff{gen:Int}{s:Bytes}:slotOk gen s=true↔1≤gen∧gen≤4611686018427387904∧s.length≤100:=by
 unfold slotOk;simp;omega
theorem slot_may{gen:Int}{s:Bytes}(h:slotOk gen s=true):(slotR gen s).may:=by
 obtain⟨h1,h2,h3⟩:=slotOk_iff.1 h;refine⟨by simp[slotR],by simp[slotR],by simp[slotR],by simp[slotR],?_,?_⟩
 · intro t ht;simp[slotR]at ht;subst ht;omega
 · intro t ht;simp[slotR]at ht;subst ht;omega
theorem slotB_len{gen:Int}{s:Bytes}(h:slotOk gen s=true):(recB (slotR gen s)).length≤113∧4≤(recB (slotR gen s)).length:=by
 obtain⟨h1,h2,h3⟩:=slotOk_iff.1 h;have h4:=numB_len10 (zig_lt (n:=gen) (by omega) (by omega))
 have h5:1≤(numB (zig gen)).length:=by
  by_cases h:zig gen<128
  · rw[numB_last h];simp
  · rw[numB_more h];simp
 simp[recB,slotR,numsB,textsB];omega
/-- What a slot says. -/
def goodR(r:RecM):Bool:=decide (r.kind=1)&&decide (r.nums.length=1)&&decide (r.texts.length=1)&&slotOk (r.nums.headD 0) (r.texts.headD [])
def readM(b:Bytes):Option (Int × Bytes):=
 let n:=(b[4]?.getD 0).toNat
 if b.length<n+5 then none else
 if sumM ((b.drop 4).take (n+1))=ofBe4 b then
  match recD ((b.drop 5).take n)with
  |some r=>if goodR r then some (r.nums.headD 0,r.texts.headD [])else none
  |none=>none
 else none
theorem readM_ok{b:Bytes}{g:Int}{t:Bytes}(h:readM b=some (g,t)):slotOk g t=true:=by
 unfold readM at h;dsimp only at h;split at h
 ·cases h
 ·split at h
  ·split at h
   ·rename_i r hr
    split at h
    ·rename_i hg
     cases h;unfold goodR at hg;simp only[Bool.and_eq_true]at hg;exact hg.2
    ·cases h
   ·cases h
  ·cases h
structure CellM where
 a:Int
 b:Int
 now:Int
 gen:Int
 text:Bytes
def CellM.see(C:CellM)(i:Int)(r:Option (Int × Bytes)):CellM:=match r with
 |some q=>if C.gen<q.1 then{C with now:=i,gen:=q.1,text:=q.2}else C
 |none=>C
def CellM.init(a b:Int):CellM:=⟨a,b,-1,0,[]⟩
def openC(D:Dev)(a b:Int):CellM:=((CellM.init a b).see 0 (readM (D.sec a))).see 1 (readM (D.sec b))
def openE(D:Dev)(a b:Int):Int:=if a=b∨min a b<0∨(D.l.length:Int)≤max a b then 1 else if D.dead=true then 30 else 0
def CellM.other(C:CellM):Int:=if C.now=0 then C.b else C.a
def CellM.put(C:CellM)(D:Dev)(s:Bytes):Int × CellM × Dev:=
 if(100:Int)<s.length then(3,C,D)else if C.gen=4611686018427387904 then(23,C,D)else
 let w:=D.write C.other (slotM (IntKind.i64.wrap (C.gen+1)) s)
 if w.1≠0 then(w.1,C,w.2)else
 let b:=w.2.barrier
 if b.1≠0 then(b.1,C,b.2)else
 (0,{C with now:=if C.now=0 then 1 else 0,gen:=IntKind.i64.wrap (C.gen+1),text:=s},b.2)
structure CellM.ok(C:CellM)(n:Nat):Prop where
 a:0≤C.a∧C.a<n
 b:0≤C.b∧C.b<n
 ab:C.a≠C.b
 now:C.now= -1∨C.now=0∨C.now=1
 gen:0≤C.gen∧C.gen≤4611686018427387904
 text:C.text.length≤100
theorem CellM.see_ok{C:CellM}{n:Nat}(h:C.ok n){i:Int}(hi:i=0∨i=1)(b:Bytes):(C.see i (readM b)).ok n:=by
 unfold CellM.see;cases hr:readM b with
 |none=>exact h
 |some q=>
  dsimp only;split
  ·obtain⟨h1,h2,h3⟩:=slotOk_iff.1 (readM_ok (g:=q.1) (t:=q.2) hr);exact⟨h.a,h.b,h.ab,by dsimp only;omega,by dsimp only;omega,h3⟩
  ·exact h
theorem openC_ok{D:Dev}{a b:Int}(h:openE D a b=0):(openC D a b).ok D.l.length∧D.dead=false:=by
 unfold openE at h;split at h
 ·cases h
 ·rename_i h1
  split at h
  ·cases h
  ·rename_i h2
   refine⟨?_,by simpa using h2⟩;have h0:(CellM.init a b).ok D.l.length:=⟨by simp only[CellM.init];omega,by simp only[CellM.init];omega,by simp only[CellM.init];omega,.inl rfl,by simp[CellM.init],by simp[CellM.init]⟩;exact CellM.see_ok (CellM.see_ok h0 (.inl rfl) _) (.inr rfl) _
theorem put_ok{C:CellM}{D:Dev}(hC:C.ok D.l.length)(hD:D.ok)(s:Bytes):(C.put D s).2.1.ok D.l.length∧(C.put D s).2.2.ok:=by
 unfold CellM.put;split
 ·exact⟨hC,hD⟩
 ·rename_i h1
  split
  ·exact⟨hC,hD⟩
  ·rename_i h2
   have hw:=Dev.write_ok hD C.other (slotM (IntKind.i64.wrap (C.gen+1)) s);have hb:=Dev.barrier_ok hw;have hg:=hC.gen;dsimp only;split
   ·exact⟨hC,hw⟩
   ·split
    ·exact⟨hC,hb⟩
    ·refine⟨⟨hC.a,hC.b,hC.ab,?_,?_,?_⟩,hb⟩
     · dsimp only;split<;>omega
     · dsimp only;rw[wr (by omega) (by omega)];omega
     · dsimp only;omega
def readT(b:Bytes):Int × Bytes × Bool:=match readM b with
 |some q=>(q.1,q.2,true)
 |none=>(0,[],false)
theorem readM_eq(b:Bytes):readM b=if b.length<(b[4]?.getD 0).toNat+5 then none else if sumM ((b.drop 4).take ((b[4]?.getD 0).toNat+1))=ofBe4 b∧(decM ((b.drop 5).take (b[4]?.getD 0).toNat)).2=0∧goodR (decM ((b.drop 5).take (b[4]?.getD 0).toNat)).1=true then
  some ((decM ((b.drop 5).take (b[4]?.getD 0).toNat)).1.nums.headD 0,(decM ((b.drop 5).take (b[4]?.getD 0).toNat)).1.texts.headD [])else none:=by
 unfold readM;dsimp only;split
 ·rfl
 ·by_cases h:sumM ((b.drop 4).take ((b[4]?.getD 0).toNat+1))=ofBe4 b
  ·rw[if_pos h];cases hr:recD ((b.drop 5).take (b[4]?.getD 0).toNat)with
   |none=>rw[decM_none hr];simp
   |some r=>
    rw[decM_some hr]
    by_cases hg:goodR r=true<;>simp[hg,h]
  ·rw[if_neg h,if_neg (fun hh=>h hh.1)]
theorem goodR_false{r:RecM}(h:r.kind≠1∨(r.nums.length:Int)≠1∨(r.texts.length:Int)≠1∨(100:Int)<(r.texts.headD []).length∨r.nums.headD 0<1∨4611686018427387904<r.nums.headD 0): ¬goodR r=true:=by
 unfold goodR;simp only[Bool.and_eq_true,decide_eq_true_eq,slotOk_iff];omega
theorem goodR_true{r:RecM}(h1:r.kind=1)(h2:(r.nums.length:Int)=1)(h3:(r.texts.length:Int)=1)(h4: ¬(100:Int)<(r.texts.headD []).length)(h5: ¬r.nums.headD 0<1)(h6: ¬4611686018427387904<r.nums.headD 0):goodR r=true:=by
 unfold goodR;simp only[Bool.and_eq_true,decide_eq_true_eq,slotOk_iff];omega
theorem readT_bad{b0 b1 b2 b3 b4:UInt8}{r:Bytes}(h:(b0::b1::b2::b3::b4::r).length<b4.toNat+5∨ ¬sumM ((b4::r).take (b4.toNat+1))=ofBe4 (b0::b1::b2::b3::b4::r)∨ ¬(decM (r.take b4.toNat)).2=0∨ ¬goodR (decM (r.take b4.toNat)).1=true):
  readT (b0::b1::b2::b3::b4::r)=(0,[],false):=by
 unfold readT;rw[readM_eq];simp only[List.getElem?_cons_succ,List.getElem?_cons_zero,Option.getD_some,List.drop_succ_cons,List.drop_zero]
 by_cases h0:(b0::b1::b2::b3::b4::r).length<b4.toNat+5
 ·rw[if_pos h0]
 ·rw[if_neg h0,if_neg (fun⟨p,q,s⟩=>by rcases h with h|h|h|h;exact h0 h;exact h p;exact h q;exact h s)]
theorem readT_good{b0 b1 b2 b3 b4:UInt8}{r:Bytes}(h0: ¬(b0::b1::b2::b3::b4::r).length<b4.toNat+5)(h1:sumM ((b4::r).take (b4.toNat+1))=ofBe4 (b0::b1::b2::b3::b4::r))(h2:(decM (r.take b4.toNat)).2=0)(h3:goodR (decM (r.take b4.toNat)).1=true):
  readT (b0::b1::b2::b3::b4::r)=((decM (r.take b4.toNat)).1.nums.headD 0,(decM (r.take b4.toNat)).1.texts.headD [],true):=by
 unfold readT;rw[readM_eq];simp only[List.getElem?_cons_succ,List.getElem?_cons_zero,Option.getD_some,List.drop_succ_cons,List.drop_zero];rw[if_neg h0,if_pos ⟨h1,h2,h3⟩]
theorem be32or{a b c d:Nat}(ha:a<256)(hb:b<256)(hc:c<256)(hd:d<256):
  bOr .u32 (bOr .u32 (bOr .u32 (IntKind.u32.wrap (IntKind.u32.wrap (a:Int)*2^(min (24:Int).toNat IntKind.u32.bits))) (IntKind.u32.wrap (IntKind.u32.wrap (b:Int)*2^(min (16:Int).toNat IntKind.u32.bits)))) (IntKind.u32.wrap (IntKind.u32.wrap (c:Int)*2^(min (8:Int).toNat IntKind.u32.bits)))) (IntKind.u32.wrap (d:Int))=
  ((a*16777216+b*65536+c*256+d:Nat):Int):=by
 rw[show IntKind.u32.wrap (IntKind.u32.wrap (a:Int)*2^(min (24:Int).toNat IntKind.u32.bits))=((2^24*a:Nat):Int)by rw[wu32,wu32];show((a:Int) % 4294967296*16777216) % 4294967296=_;omega,
  show IntKind.u32.wrap (IntKind.u32.wrap (b:Int)*2^(min (16:Int).toNat IntKind.u32.bits))=((2^16*b:Nat):Int)by rw[wu32,wu32];show((b:Int) % 4294967296*65536) % 4294967296=_;omega,
  show IntKind.u32.wrap (IntKind.u32.wrap (c:Int)*2^(min (8:Int).toNat IntKind.u32.bits))=((2^8*c:Nat):Int)by rw[wu32,wu32];show((c:Int) % 4294967296*256) % 4294967296=_;omega,
  show IntKind.u32.wrap (d:Int)=((d:Nat):Int)by rw[wu32];omega]
 have e1:(2^24*a|||2^16*b)=2^24*a+2^16*b:=(Nat.two_pow_add_eq_or_of_lt (by omega) a).symm
 have e2:(2^24*a+2^16*b|||2^8*c)=2^24*a+2^16*b+2^8*c:=by
  have:=(Nat.two_pow_add_eq_or_of_lt (i:=16) (b:=2^8*c) (by omega) (2^8*a+b)).symm;rw[show 2^16*(2^8*a+b)=2^24*a+2^16*b by omega]at this;exact this
 have e3:(2^24*a+2^16*b+2^8*c|||d)=2^24*a+2^16*b+2^8*c+d:=by
  have:=(Nat.two_pow_add_eq_or_of_lt (i:=8) (b:=d) (by omega) (2^16*a+2^8*b+c)).symm;rw[show 2^8*(2^16*a+2^8*b+c)=2^24*a+2^16*b+2^8*c by omega]at this;exact this
 rw[bOr_u rfl (by show _<4294967296;omega) (by show _<4294967296;omega),e1,bOr_u rfl (by show _<4294967296;omega) (by show _<4294967296;omega),e2,bOr_u rfl (by show _<4294967296;omega) (by show _<4294967296;omega),e3];omega
theorem five{bs:Bytes}(h:5≤bs.length): ∃b0 b1 b2 b3 b4 r,bs=b0::b1::b2::b3::b4::r:=by
 match bs,h with
 |b0::b1::b2::b3::b4::r,_=>exact⟨b0,b1,b2,b3,b4,r,rfl⟩
theorem head_get{α:Type}{l:List α}{d:α}(h:(l.length:Int)=1):l[0]? =some (l.headD d):=by
 match l,h with
 |x::_,_=>rfl
/-- Whether a slot can be read, in numbers. -/
def Unread(b0 b1 b2 b3 b4:UInt8)(r:Bytes)(rc:RecM)(er:Int):Prop:=
 r.length+5<b4.toNat+5∨ ¬sumM ((b4::r).take (b4.toNat+1))=ofBe4 (b0::b1::b2::b3::b4::r)∨ ¬er=0∨(rc.kind≠1∨(rc.nums.length:Int)≠1∨(rc.texts.length:Int)≠1∨(100:Int)<(rc.texts.headD []).length∨rc.nums.headD 0<1∨4611686018427387904<rc.nums.headD 0)
theorem readT_dich{b0 b1 b2 b3 b4:UInt8}{r:Bytes}:(Unread b0 b1 b2 b3 b4 r (decM (r.take b4.toNat)).1 (decM (r.take b4.toNat)).2→readT (b0::b1::b2::b3::b4::r)=(0,[],false))∧
  (¬Unread b0 b1 b2 b3 b4 r (decM (r.take b4.toNat)).1 (decM (r.take b4.toNat)).2→readT (b0::b1::b2::b3::b4::r)=((decM (r.take b4.toNat)).1.nums.headD 0,(decM (r.take b4.toNat)).1.texts.headD [],true)):=by
 constructor
 ·rintro(h|h|h|h)
  · exact readT_bad (.inl (by simp only[List.length_cons];omega))
  · exact readT_bad (.inr (.inl h))
  · exact readT_bad (.inr (.inr (.inl h)))
  · exact readT_bad (.inr (.inr (.inr (goodR_false h))))
 ·intro h;unfold Unread at h;refine readT_good (by simp only[List.length_cons];omega) (by omega) (by omega) (goodR_true (by omega) (by omega) (by omega) (by omega) (by omega) (by omega))
theorem put_long{C:CellM}{D:Dev}{s:Bytes}(h:(100:Int)<s.length):C.put D s=(3,C,D):=by unfold CellM.put;rw[if_pos h]
theorem put_full{C:CellM}{D:Dev}{s:Bytes}(h: ¬(100:Int)<s.length)(h2:C.gen=4611686018427387904):C.put D s=(23,C,D):=by unfold CellM.put;rw[if_neg h,if_pos h2]
theorem put_w{C:CellM}{D:Dev}{s:Bytes}{w:Int × Dev}(h: ¬(100:Int)<s.length)(h2: ¬C.gen=4611686018427387904)(hw:D.write C.other (slotM (IntKind.i64.wrap (C.gen+1)) s)=w)(h3: ¬w.1=0):C.put D s=(w.1,C,w.2):=by
 unfold CellM.put;rw[if_neg h,if_neg h2,hw];dsimp only;rw[if_pos h3]
theorem put_b{C:CellM}{D:Dev}{s:Bytes}{w b:Int × Dev}(h: ¬(100:Int)<s.length)(h2: ¬C.gen=4611686018427387904)(hw:D.write C.other (slotM (IntKind.i64.wrap (C.gen+1)) s)=w)(h3:w.1=0)(hb:w.2.barrier=b)(h4: ¬b.1=0):C.put D s=(b.1,C,b.2):=by
 unfold CellM.put;rw[if_neg h,if_neg h2,hw];dsimp only;rw[if_neg (by simpa using h3),hb,if_pos h4]
theorem put_done{C:CellM}{D:Dev}{s:Bytes}{w b:Int × Dev}(h: ¬(100:Int)<s.length)(h2: ¬C.gen=4611686018427387904)(hw:D.write C.other (slotM (IntKind.i64.wrap (C.gen+1)) s)=w)(h3:w.1=0)(hb:w.2.barrier=b)(h4:b.1=0):
  C.put D s=(0,{C with now:=if C.now=0 then 1 else 0,gen:=IntKind.i64.wrap (C.gen+1),text:=s},b.2):=by
 unfold CellM.put;rw[if_neg h,if_neg h2,hw];dsimp only;rw[if_neg (by simpa using h3),hb,if_neg (by simpa using h4)]
theorem see_T(C:CellM)(i:Int)(b:Bytes):C.see i (readM b)=if(readT b).2.2=true∧C.gen<(readT b).1 then{C with now:=i,gen:=(readT b).1,text:=(readT b).2.1}else C:=by
 unfold CellM.see readT;cases readM b with
 |none=>simp
 |some q=>simp
def cellAt(a b:Int)(k:Nat):Int:=if k=0 then a else b
def seeTo(D:Dev)(a b:Int):Nat→CellM
 |0=>CellM.init a b
 |k+1=>(seeTo D a b k).see k (readM (D.sec (cellAt a b k)))
theorem seeTo_two(D:Dev)(a b:Int):seeTo D a b 2=openC D a b:=rfl
theorem see_ab(C:CellM)(i:Int)(r:Option (Int × Bytes)):(C.see i r).a=C.a∧(C.see i r).b=C.b:=by
 unfold CellM.see;cases r with
 |none=>exact⟨rfl,rfl⟩
 |some q=>dsimp only;split<;>exact⟨rfl,rfl⟩
theorem seeTo_a(D:Dev)(a b:Int): ∀k,(seeTo D a b k).a=a∧(seeTo D a b k).b=b
 |0=>⟨rfl,rfl⟩
 |k+1=>by
  have:=seeTo_a D a b k;unfold seeTo;rw[(see_ab _ _ _).1,(see_ab _ _ _).2];exact this
theorem openE_ok{D:Dev}{a b:Int}(h1: ¬a=b)(h2: ¬min a b<0)(h3: ¬(D.l.length:Int)≤max a b)(h4: ¬D.dead=true):openE D a b=0:=by
 unfold openE;rw[if_neg (by omega),if_neg h4]
theorem openE_arg{D:Dev}{a b:Int}(h:a=b∨min a b<0∨(D.l.length:Int)≤max a b):openE D a b=1:=by unfold openE;rw[if_pos h]
theorem openE_down{D:Dev}{a b:Int}(h1: ¬a=b)(h2: ¬min a b<0)(h3: ¬(D.l.length:Int)≤max a b)(h4:D.dead=true):openE D a b=30:=by
 unfold openE;rw[if_neg (by omega),if_pos h4]
theorem numD_suffix: ∀(b:Bytes) (k:Nat) (q:Nat × Bytes),numD k b=some q→ ∃p,b=p++q.2
 | [],k,q,h=>by cases k<;>cases h
 |x::r,k,q,h=>by
  by_cases hok:(k=9∧1<x.toNat)∨(0<k∧x.toNat=0)
  ·rw[numD_bad hok]at h;cases h
  ·by_cases hx:x.toNat<128
   ·rw[numD_last hok hx]at h;cases h;exact⟨[x],rfl⟩
   ·rw[numD_more hok hx]at h;obtain⟨q',hq,rfl⟩:=Option.map_eq_some_iff.1 h;obtain⟨p,hp⟩:=numD_suffix r (k+1) q' hq;exact⟨x::p,by rw[hp];rfl⟩
theorem drop_next{bs r:Bytes}{at0:Nat}{p:Bytes}(h:bs.drop at0=p++r)(hle:at0≤bs.length):bs.drop (bs.length-r.length)=r∧r.length≤bs.length-at0:=by
 have hl:=congrArg List.length h;simp only[List.length_drop,List.length_append]at hl;have e:bs.length-r.length=at0+p.length:=by omega
 refine⟨?_,by omega⟩;rw[e,←List.drop_drop,h,List.drop_left]
theorem drop_cons{bs:Bytes}{k:Nat}(h:k<bs.length):bs.drop k=(bs[k]?.getD 0)::bs.drop (k+1):=by
 rw[List.drop_eq_getElem_cons h,List.getElem?_eq_getElem h];rfl
theorem zag_neg{u:Nat}(h:u % 2=1):zag u= -((u / 2:Nat):Int)- 1:=by unfold zag;rw[if_neg (by omega)]
theorem zag_pos{u:Nat}(h: ¬u % 2=1):zag u=((u / 2:Nat):Int):=by unfold zag;rw[if_pos (by omega)]
theorem fit64{bs:Bytes}{k u:Nat}{r:Bytes}{x:UInt8}(h:NumI bs k u (x::r))(hok: ¬((k=9∧1<x.toNat)∨(0<k∧x.toNat=0))):
  IntKind.u64.wrap (((u:Nat):Int)+IntKind.u64.wrap (((x.toNat % 128:Nat):Int)*((2^(7*k):Nat):Int)))=((u+x.toNat % 128*2^(7*k):Nat):Int):=by
 obtain⟨h1,h2⟩:=h.fit hok;rw[wu64,wu64];have e:((x.toNat % 128:Nat):Int)*((2^(7*k):Nat):Int)=((x.toNat % 128*2^(7*k):Nat):Int):=by simp
 rw[e];generalize x.toNat % 128*2^(7*k)=z at*;omega
theorem part_next{k:Nat}(h:k≤8):IntKind.u64.wrap (((2^(7*k):Nat):Int)*128)=((2^(7*(k+1)):Nat):Int):=by
 have e:2^(7*(k+1))=2^(7*k)*128:=by rw[show 7*(k+1)=7*k+7 by omega,Nat.pow_add]
 have:=pow7' h;rw[wu64,e];generalize 2^(7*k)=z at*;omega
/-- What a sector says as a record: the record, and whether there is one. -/
def unfrM(b:Bytes):RecM × Bool:=
 if b.length<(b[4]?.getD 0).toNat+5 then(⟨0,[],[]⟩,false)else
 if sumM ((b.drop 4).take ((b[4]?.getD 0).toNat+1))=ofBe4 b then((decM ((b.drop 5).take (b[4]?.getD 0).toNat)).1,decide ((decM ((b.drop 5).take (b[4]?.getD 0).toNat)).2=0))else(⟨0,[],[]⟩,false)
/-- What the document's reader tells of a number: it, the place behind it, whether there is one. -/
def numT(bs:Bytes)(at0:Nat):Int × Int × Bool:=match numD 0 (bs.drop at0)with
 |some q=>(zag q.1,((bs.length-q.2.length:Nat):Int),true)
 |none=>(0,0,false)
theorem num_none{bs:Bytes}{p:Nat}{nt:Int × Int × Bool}(h:numT bs p=nt)(h2:nt.2.2=false):numD 0 (bs.drop p)=none:=by
 subst h;unfold numT at h2;cases hq:numD 0 (bs.drop p)with
 |none=>rfl
 |some q=>rw[hq]at h2;cases h2
theorem num_some{bs:Bytes}{p:Nat}{nt:Int × Int × Bool}(h:numT bs p=nt)(hp:p≤bs.length)(h2:nt.2.2=true): ∃q,numD 0 (bs.drop p)=some q∧nt.1=zag q.1∧nt.2.1=((bs.length-q.2.length:Nat):Int)∧bs.drop (bs.length-q.2.length)=q.2∧q.2.length≤bs.length:=by
 subst h;unfold numT at h2 ⊢;cases hq:numD 0 (bs.drop p)with
 |none=>rw[hq]at h2;cases h2
 |some q=>
  obtain⟨w,hw⟩:=numD_suffix _ _ _ hq;obtain⟨d1,d2⟩:=drop_next hw hp;exact⟨q,rfl,rfl,rfl,d1,by omega⟩
theorem unfr_cons(b0 b1 b2 b3 b4:UInt8)(r:Bytes):unfrM (b0::b1::b2::b3::b4::r)=if r.length+5<b4.toNat+5 then(⟨0,[],[]⟩,false)else
  if sumM ((b4::r).take (b4.toNat+1))=ofBe4 (b0::b1::b2::b3::b4::r)then((decM (r.take b4.toNat)).1,decide ((decM (r.take b4.toNat)).2=0))else(⟨0,[],[]⟩,false):=by
 unfold unfrM;simp only[List.getElem?_cons_succ,List.getElem?_cons_zero,Option.getD_some,List.drop_succ_cons,List.drop_zero,List.length_cons]
end Go.Sl