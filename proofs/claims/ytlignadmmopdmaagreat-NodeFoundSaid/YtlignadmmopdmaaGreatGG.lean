/- A part of the proof. -/
import Derived.Test.YtlignadmmopdmaaGreatGF
import Derived.Test.YtlignadmmopdmaaGreatGE
set_option linter.unusedVariables false
set_option linter.unusedSimpArgs false
set_option linter.constructorNameAsVariable false
namespace Go.Sl
def be4(n:Nat):Bytes:=[UInt8.ofNat (n / 16777216 % 256),UInt8.ofNat (n / 65536 % 256),UInt8.ofNat (n / 256 % 256),UInt8.ofNat (n % 256)]
def ofBe4:Bytes→Nat
 |a::b::c::d::_=>a.toNat*16777216+b.toNat*65536+c.toNat*256+d.toNat
 |_=>0
theorem ofBe4_be4{n:Nat}(h:n<4294967296)(r:Bytes):ofBe4 (be4 n++r)=n:=by
 simp only[be4,List.cons_append,List.nil_append,ofBe4,UInt8.toNat_ofNat'];omega
def be4V(n:Nat):List Value:=[.int .u8 ((n / 16777216 % 256:Nat):Int),.int .u8 ((n / 65536 % 256:Nat):Int),.int .u8 ((n / 256 % 256:Nat):Int),.int .u8 ((n % 256:Nat):Int)]
theorem be4V_eq(n:Nat):be4V n=bytesV (be4 n):=by
 simp[be4V,be4,bytesV,UInt8.toNat_ofNat']
def framed(rec:Bytes):Bytes:=be4 (sumM (UInt8.ofNat rec.length::rec))++(UInt8.ofNat rec.length::rec)
def slotR(gen:Int)(s:Bytes):RecM:=⟨1,[gen],[s]⟩
def slotOk(gen:Int)(s:Bytes):Bool:= !(decide (gen<1)||decide (4611686018427387904<gen)||decide (100<(s.length:Int)))
def slotM(gen:Int)(s:Bytes):Bytes:=if slotOk gen s then framed (recB (slotR gen s))else []
theorem slotOk_iff{gen:Int}{s:Bytes}:slotOk gen s=true↔1≤gen∧gen≤4611686018427387904∧s.length≤100:=by
 unfold slotOk;simp;omega
theorem slot_may{gen:Int}{s:Bytes}(h:slotOk gen s=true):(slotR gen s).may:=by
 obtain⟨h1,h2,h3⟩:=slotOk_iff.1 h;refine⟨by simp[slotR],by simp[slotR],by simp[slotR],by simp[slotR],?_,?_⟩
 · intro t ht;simp[slotR]at ht;subst ht;omega
 · intro t ht;simp[slotR]at ht;subst ht;omega
theorem slotB_len{gen:Int}{s:Bytes}(h:slotOk gen s=true):(recB (slotR gen s)).length≤113∧4≤(recB (slotR gen s)).length:=by
 obtain⟨h1,h2,h3⟩:=slotOk_iff.1 h;have h4:=numB_len10 (zig_lt (n:=gen) (by omega) (by omega))
 have h5:1≤(numB (zig gen)).length:=by
  by_cases h:zig gen<128
  · rw[numB_last h];simp
  · rw[numB_more h];simp
 simp[recB,slotR,numsB,textsB];omega
theorem framed_len(r:Bytes):(framed r).length=r.length+5:=by simp[framed,be4]
theorem slotM_len{gen:Int}{s:Bytes}(h:slotOk gen s=true):(slotM gen s).length≤118∧9≤(slotM gen s).length:=by
 have:=slotB_len h;unfold slotM;rw[if_pos h,framed_len];omega
theorem slotM_le(gen:Int)(s:Bytes):(slotM gen s).length≤118:=by
 by_cases h:slotOk gen s=true
 · exact(slotM_len h).1
 · unfold slotM;rw[if_neg h];simp
/-- What a slot says. -/
def goodR(r:RecM):Bool:=decide (r.kind=1)&&decide (r.nums.length=1)&&decide (r.texts.length=1)&&slotOk (r.nums.headD 0) (r.texts.headD [])
def readM(b:Bytes):Option (Int × Bytes):=
 let n:=(b[4]?.getD 0).toNat
 if b.length<n+5 then none else
 if sumM ((b.drop 4).take (n+1))=ofBe4 b then
  match recD ((b.drop 5).take n)with
  |some r=>if goodR r then some (r.nums.headD 0,r.texts.headD [])else none
  |none=>none
 else none
theorem readM_framed{r:RecM}(hr:r.may)(hl:(recB r).length<256)(x:Bytes):readM (framed (recB r)++x)=if goodR r then some (r.nums.headD 0,r.texts.headD [])else none:=by
 have e4:(framed (recB r)++x)[4]? =some (UInt8.ofNat (recB r).length):=by simp[framed,be4]
 have en:(UInt8.ofNat (recB r).length).toNat=(recB r).length:=by rw[UInt8.toNat_ofNat'];omega
 have d4:(framed (recB r)++x).drop 4=UInt8.ofNat (recB r).length::(recB r++x):=by simp[framed,be4]
 have d5:(framed (recB r)++x).drop 5=recB r++x:=by simp[framed,be4]
 unfold readM;rw[e4,Option.getD_some,en];dsimp only;rw[if_neg (by rw[List.length_append,framed_len];omega),d4,d5];have t5:(UInt8.ofNat (recB r).length::(recB r++x)).take ((recB r).length+1)=UInt8.ofNat (recB r).length::recB r:=by simp
 have t6:(recB r++x).take (recB r).length=recB r:=by simp
 rw[t5,t6]
 have es:ofBe4 (framed (recB r)++x)=sumM (UInt8.ofNat (recB r).length::recB r):=by
  unfold framed;rw[List.append_assoc];exact ofBe4_be4 (sumM_lt _) _
 rw[es,if_pos rfl,recD_recB hr]
theorem readM_slot{gen:Int}{s:Bytes}(h:slotOk gen s=true)(x:Bytes):readM (slotM gen s++x)=some (gen,s):=by
 unfold slotM;rw[if_pos h,readM_framed (slot_may h) (by have:=(slotB_len h).1;omega)];rw[if_pos (by simp[goodR,slotR,h])];rfl
theorem readM_pad{gen:Int}{s:Bytes}(h:slotOk gen s=true):readM (pad (slotM gen s))=some (gen,s):=readM_slot h _
theorem readM_ok{b:Bytes}{g:Int}{t:Bytes}(h:readM b=some (g,t)):slotOk g t=true:=by
 unfold readM at h;dsimp only at h;split at h
 ·cases h
 ·split at h
  ·split at h
   ·rename_i r hr
    split at h
    ·rename_i hg
     cases h;unfold goodR at hg;simp only[Bool.and_eq_true]at hg;exact hg.2
    ·cases h
   ·cases h
  ·cases h
theorem readM_zero:readM zsec=none:=by
 unfold readM;have e4:zsec[4]? =some 0:=by decide
 rw[e4];dsimp only[Option.getD_some];have:(0:UInt8).toNat=0:=rfl;rw[this,if_neg (by simp)];have:recD ((zsec.drop 5).take 0)=none:=rfl;rw[this];split<;>rfl
structure CellM where
 a:Int
 b:Int
 now:Int
 gen:Int
 text:Bytes
def CellM.see(C:CellM)(i:Int)(r:Option (Int × Bytes)):CellM:=match r with
 |some q=>if C.gen<q.1 then{C with now:=i,gen:=q.1,text:=q.2}else C
 |none=>C
def CellM.init(a b:Int):CellM:=⟨a,b,-1,0,[]⟩
def openC(D:Dev)(a b:Int):CellM:=((CellM.init a b).see 0 (readM (D.sec a))).see 1 (readM (D.sec b))
def openE(D:Dev)(a b:Int):Int:=if a=b∨min a b<0∨(D.l.length:Int)≤max a b then 1 else if D.dead=true then 30 else 0
def CellM.other(C:CellM):Int:=if C.now=0 then C.b else C.a
def CellM.put(C:CellM)(D:Dev)(s:Bytes):Int × CellM × Dev:=
 if(100:Int)<s.length then(3,C,D)else if C.gen=4611686018427387904 then(23,C,D)else
 let w:=D.write C.other (slotM (IntKind.i64.wrap (C.gen+1)) s)
 if w.1≠0 then(w.1,C,w.2)else
 let b:=w.2.barrier
 if b.1≠0 then(b.1,C,b.2)else
 (0,{C with now:=if C.now=0 then 1 else 0,gen:=IntKind.i64.wrap (C.gen+1),text:=s},b.2)
structure CellM.ok(C:CellM)(n:Nat):Prop where
 a:0≤C.a∧C.a<n
 b:0≤C.b∧C.b<n
 ab:C.a≠C.b
 now:C.now= -1∨C.now=0∨C.now=1
 gen:0≤C.gen∧C.gen≤4611686018427387904
 text:C.text.length≤100
theorem CellM.see_ok{C:CellM}{n:Nat}(h:C.ok n){i:Int}(hi:i=0∨i=1)(b:Bytes):(C.see i (readM b)).ok n:=by
 unfold CellM.see;cases hr:readM b with
 |none=>exact h
 |some q=>
  dsimp only;split
  ·obtain⟨h1,h2,h3⟩:=slotOk_iff.1 (readM_ok (g:=q.1) (t:=q.2) hr);exact⟨h.a,h.b,h.ab,by dsimp only;omega,by dsimp only;omega,h3⟩
  ·exact h
theorem openC_ok{D:Dev}{a b:Int}(h:openE D a b=0):(openC D a b).ok D.l.length∧D.dead=false:=by
 unfold openE at h;split at h
 ·cases h
 ·rename_i h1
  split at h
  ·cases h
  ·rename_i h2
   refine⟨?_,by simpa using h2⟩;have h0:(CellM.init a b).ok D.l.length:=⟨by simp only[CellM.init];omega,by simp only[CellM.init];omega,by simp only[CellM.init];omega,.inl rfl,by simp[CellM.init],by simp[CellM.init]⟩;exact CellM.see_ok (CellM.see_ok h0 (.inl rfl) _) (.inr rfl) _
theorem put_ok{C:CellM}{D:Dev}(hC:C.ok D.l.length)(hD:D.ok)(s:Bytes):(C.put D s).2.1.ok D.l.length∧(C.put D s).2.2.ok:=by
 unfold CellM.put;split
 ·exact⟨hC,hD⟩
 ·rename_i h1
  split
  ·exact⟨hC,hD⟩
  ·rename_i h2
   have hw:=Dev.write_ok hD C.other (slotM (IntKind.i64.wrap (C.gen+1)) s);have hb:=Dev.barrier_ok hw;have hg:=hC.gen;dsimp only;split
   ·exact⟨hC,hw⟩
   ·split
    ·exact⟨hC,hb⟩
    ·refine⟨⟨hC.a,hC.b,hC.ab,?_,?_,?_⟩,hb⟩
     · dsimp only;split<;>omega
     · dsimp only;rw[wr (by omega) (by omega)];omega
     · dsimp only;omega
def readT(b:Bytes):Int × Bytes × Bool:=match readM b with
 |some q=>(q.1,q.2,true)
 |none=>(0,[],false)
theorem readM_eq(b:Bytes):readM b=if b.length<(b[4]?.getD 0).toNat+5 then none else if sumM ((b.drop 4).take ((b[4]?.getD 0).toNat+1))=ofBe4 b∧(decM ((b.drop 5).take (b[4]?.getD 0).toNat)).2=0∧goodR (decM ((b.drop 5).take (b[4]?.getD 0).toNat)).1=true then
  some ((decM ((b.drop 5).take (b[4]?.getD 0).toNat)).1.nums.headD 0,(decM ((b.drop 5).take (b[4]?.getD 0).toNat)).1.texts.headD [])else none:=by
 unfold readM;dsimp only;split
 ·rfl
 ·by_cases h:sumM ((b.drop 4).take ((b[4]?.getD 0).toNat+1))=ofBe4 b
  ·rw[if_pos h];cases hr:recD ((b.drop 5).take (b[4]?.getD 0).toNat)with
   |none=>rw[decM_none hr];simp
   |some r=>
    rw[decM_some hr]
    by_cases hg:goodR r=true<;>simp[hg,h]
  ·rw[if_neg h,if_neg (fun hh=>h hh.1)]
theorem goodR_false{r:RecM}(h:r.kind≠1∨(r.nums.length:Int)≠1∨(r.texts.length:Int)≠1∨(100:Int)<(r.texts.headD []).length∨r.nums.headD 0<1∨4611686018427387904<r.nums.headD 0): ¬goodR r=true:=by
 unfold goodR;simp only[Bool.and_eq_true,decide_eq_true_eq,slotOk_iff];omega
theorem goodR_true{r:RecM}(h1:r.kind=1)(h2:(r.nums.length:Int)=1)(h3:(r.texts.length:Int)=1)(h4: ¬(100:Int)<(r.texts.headD []).length)(h5: ¬r.nums.headD 0<1)(h6: ¬4611686018427387904<r.nums.headD 0):goodR r=true:=by
 unfold goodR;simp only[Bool.and_eq_true,decide_eq_true_eq,slotOk_iff];omega
theorem readT_bad{b0 b1 b2 b3 b4:UInt8}{r:Bytes}(h:(b0::b1::b2::b3::b4::r).length<b4.toNat+5∨ ¬sumM ((b4::r).take (b4.toNat+1))=ofBe4 (b0::b1::b2::b3::b4::r)∨ ¬(decM (r.take b4.toNat)).2=0∨ ¬goodR (decM (r.take b4.toNat)).1=true):
  readT (b0::b1::b2::b3::b4::r)=(0,[],false):=by
 unfold readT;rw[readM_eq];simp only[List.getElem?_cons_succ,List.getElem?_cons_zero,Option.getD_some,List.drop_succ_cons,List.drop_zero]
 by_cases h0:(b0::b1::b2::b3::b4::r).length<b4.toNat+5
 ·rw[if_pos h0]
 ·rw[if_neg h0,if_neg (fun⟨p,q,s⟩=>by rcases h with h|h|h|h;exact h0 h;exact h p;exact h q;exact h s)]
theorem readT_good{b0 b1 b2 b3 b4:UInt8}{r:Bytes}(h0: ¬(b0::b1::b2::b3::b4::r).length<b4.toNat+5)(h1:sumM ((b4::r).take (b4.toNat+1))=ofBe4 (b0::b1::b2::b3::b4::r))(h2:(decM (r.take b4.toNat)).2=0)(h3:goodR (decM (r.take b4.toNat)).1=true):
  readT (b0::b1::b2::b3::b4::r)=((decM (r.take b4.toNat)).1.nums.headD 0,(decM (r.take b4.toNat)).1.texts.headD [],true):=by
 unfold readT;rw[readM_eq];simp only[List.getElem?_cons_succ,List.getElem?_cons_zero,Option.getD_some,List.drop_succ_cons,List.drop_zero];rw[if_neg h0,if_pos ⟨h1,h2,h3⟩]
theorem be32or{a b c d:Nat}(ha:a<256)(hb:b<256)(hc:c<256)(hd:d<256):
  bOr .u32 (bOr .u32 (bOr .u32 (IntKind.u32.wrap (IntKind.u32.wrap (a:Int)*2^(min (24:Int).toNat IntKind.u32.bits))) (IntKind.u32.wrap (IntKind.u32.wrap (b:Int)*2^(min (16:Int).toNat IntKind.u32.bits)))) (IntKind.u32.wrap (IntKind.u32.wrap (c:Int)*2^(min (8:Int).toNat IntKind.u32.bits)))) (IntKind.u32.wrap (d:Int))=
  ((a*16777216+b*65536+c*256+d:Nat):Int):=by
 rw[show IntKind.u32.wrap (IntKind.u32.wrap (a:Int)*2^(min (24:Int).toNat IntKind.u32.bits))=((2^24*a:Nat):Int)by rw[wu32,wu32];show((a:Int) % 4294967296*16777216) % 4294967296=_;omega,
  show IntKind.u32.wrap (IntKind.u32.wrap (b:Int)*2^(min (16:Int).toNat IntKind.u32.bits))=((2^16*b:Nat):Int)by rw[wu32,wu32];show((b:Int) % 4294967296*65536) % 4294967296=_;omega,
  show IntKind.u32.wrap (IntKind.u32.wrap (c:Int)*2^(min (8:Int).toNat IntKind.u32.bits))=((2^8*c:Nat):Int)by rw[wu32,wu32];show((c:Int) % 4294967296*256) % 4294967296=_;omega,
  show IntKind.u32.wrap (d:Int)=((d:Nat):Int)by rw[wu32];omega]
 have e1:(2^24*a|||2^16*b)=2^24*a+2^16*b:=(Nat.two_pow_add_eq_or_of_lt (by omega) a).symm
 have e2:(2^24*a+2^16*b|||2^8*c)=2^24*a+2^16*b+2^8*c:=by
  have:=(Nat.two_pow_add_eq_or_of_lt (i:=16) (b:=2^8*c) (by omega) (2^8*a+b)).symm;rw[show 2^16*(2^8*a+b)=2^24*a+2^16*b by omega]at this;exact this
 have e3:(2^24*a+2^16*b+2^8*c|||d)=2^24*a+2^16*b+2^8*c+d:=by
  have:=(Nat.two_pow_add_eq_or_of_lt (i:=8) (b:=d) (by omega) (2^16*a+2^8*b+c)).symm;rw[show 2^8*(2^16*a+2^8*b+c)=2^24*a+2^16*b+2^8*c by omega]at this;exact this
 rw[bOr_u rfl (by show _<4294967296;omega) (by show _<4294967296;omega),e1,bOr_u rfl (by show _<4294967296;omega) (by show _<4294967296;omega),e2,bOr_u rfl (by show _<4294967296;omega) (by show _<4294967296;omega),e3];omega
theorem five{bs:Bytes}(h:5≤bs.length): ∃b0 b1 b2 b3 b4 r,bs=b0::b1::b2::b3::b4::r:=by
 match bs,h with
 |b0::b1::b2::b3::b4::r,_=>exact⟨b0,b1,b2,b3,b4,r,rfl⟩
theorem head_get{α:Type}{l:List α}{d:α}(h:(l.length:Int)=1):l[0]? =some (l.headD d):=by
 match l,h with
 |x::_,_=>rfl
/-- Whether a slot can be read, in numbers. -/
def Unread(b0 b1 b2 b3 b4:UInt8)(r:Bytes)(rc:RecM)(er:Int):Prop:=
 r.length+5<b4.toNat+5∨ ¬sumM ((b4::r).take (b4.toNat+1))=ofBe4 (b0::b1::b2::b3::b4::r)∨ ¬er=0∨(rc.kind≠1∨(rc.nums.length:Int)≠1∨(rc.texts.length:Int)≠1∨(100:Int)<(rc.texts.headD []).length∨rc.nums.headD 0<1∨4611686018427387904<rc.nums.headD 0)
theorem readT_dich{b0 b1 b2 b3 b4:UInt8}{r:Bytes}:(Unread b0 b1 b2 b3 b4 r (decM (r.take b4.toNat)).1 (decM (r.take b4.toNat)).2→readT (b0::b1::b2::b3::b4::r)=(0,[],false))∧
  (¬Unread b0 b1 b2 b3 b4 r (decM (r.take b4.toNat)).1 (decM (r.take b4.toNat)).2→readT (b0::b1::b2::b3::b4::r)=((decM (r.take b4.toNat)).1.nums.headD 0,(decM (r.take b4.toNat)).1.texts.headD [],true)):=by
 constructor
 ·rintro(h|h|h|h)
  · exact readT_bad (.inl (by simp only[List.length_cons];omega))
  · exact readT_bad (.inr (.inl h))
  · exact readT_bad (.inr (.inr (.inl h)))
  · exact readT_bad (.inr (.inr (.inr (goodR_false h))))
 ·intro h;unfold Unread at h;refine readT_good (by simp only[List.length_cons];omega) (by omega) (by omega) (goodR_true (by omega) (by omega) (by omega) (by omega) (by omega) (by omega))
theorem put_long{C:CellM}{D:Dev}{s:Bytes}(h:(100:Int)<s.length):C.put D s=(3,C,D):=by unfold CellM.put;rw[if_pos h]
theorem put_full{C:CellM}{D:Dev}{s:Bytes}(h: ¬(100:Int)<s.length)(h2:C.gen=4611686018427387904):C.put D s=(23,C,D):=by unfold CellM.put;rw[if_neg h,if_pos h2]
theorem put_w{C:CellM}{D:Dev}{s:Bytes}{w:Int × Dev}(h: ¬(100:Int)<s.length)(h2: ¬C.gen=4611686018427387904)(hw:D.write C.other (slotM (IntKind.i64.wrap (C.gen+1)) s)=w)(h3: ¬w.1=0):C.put D s=(w.1,C,w.2):=by
 unfold CellM.put;rw[if_neg h,if_neg h2,hw];dsimp only;rw[if_pos h3]
theorem put_b{C:CellM}{D:Dev}{s:Bytes}{w b:Int × Dev}(h: ¬(100:Int)<s.length)(h2: ¬C.gen=4611686018427387904)(hw:D.write C.other (slotM (IntKind.i64.wrap (C.gen+1)) s)=w)(h3:w.1=0)(hb:w.2.barrier=b)(h4: ¬b.1=0):C.put D s=(b.1,C,b.2):=by
 unfold CellM.put;rw[if_neg h,if_neg h2,hw];dsimp only;rw[if_neg (by simpa using h3),hb,if_pos h4]
theorem put_done{C:CellM}{D:Dev}{s:Bytes}{w b:Int × Dev}(h: ¬(100:Int)<s.length)(h2: ¬C.gen=4611686018427387904)(hw:D.write C.other (slotM (IntKind.i64.wrap (C.gen+1)) s)=w)(h3:w.1=0)(hb:w.2.barrier=b)(h4:b.1=0):
  C.put D s=(0,{C with now:=if C.now=0 then 1 else 0,gen:=IntKind.i64.wrap (C.gen+1),text:=s},b.2):=by
 unfold CellM.put;rw[if_neg h,if_neg h2,hw];dsimp only;rw[if_neg (by simpa using h3),hb,if_neg (by simpa using h4)]
theorem see_T(C:CellM)(i:Int)(b:Bytes):C.see i (readM b)=if(readT b).2.2=true∧C.gen<(readT b).1 then{C with now:=i,gen:=(readT b).1,text:=(readT b).2.1}else C:=by
 unfold CellM.see readT;cases readM b with
 |none=>simp
 |some q=>simp
def cellAt(a b:Int)(k:Nat):Int:=if k=0 then a else b
def seeTo(D:Dev)(a b:Int):Nat→CellM
 |0=>CellM.init a b
 |k+1=>(seeTo D a b k).see k (readM (D.sec (cellAt a b k)))
theorem seeTo_two(D:Dev)(a b:Int):seeTo D a b 2=openC D a b:=rfl
theorem see_ab(C:CellM)(i:Int)(r:Option (Int × Bytes)):(C.see i r).a=C.a∧(C.see i r).b=C.b:=by
 unfold CellM.see;cases r with
 |none=>exact⟨rfl,rfl⟩
 |some q=>dsimp only;split<;>exact⟨rfl,rfl⟩
theorem seeTo_a(D:Dev)(a b:Int): ∀k,(seeTo D a b k).a=a∧(seeTo D a b k).b=b
 |0=>⟨rfl,rfl⟩
 |k+1=>by
  have:=seeTo_a D a b k;unfold seeTo;rw[(see_ab _ _ _).1,(see_ab _ _ _).2];exact this
theorem openE_ok{D:Dev}{a b:Int}(h1: ¬a=b)(h2: ¬min a b<0)(h3: ¬(D.l.length:Int)≤max a b)(h4: ¬D.dead=true):openE D a b=0:=by
 unfold openE;rw[if_neg (by omega),if_neg h4]
theorem openE_arg{D:Dev}{a b:Int}(h:a=b∨min a b<0∨(D.l.length:Int)≤max a b):openE D a b=1:=by unfold openE;rw[if_pos h]
theorem openE_down{D:Dev}{a b:Int}(h1: ¬a=b)(h2: ¬min a b<0)(h3: ¬(D.l.length:Int)≤max a b)(h4:D.dead=true):openE D a b=30:=by
 unfold openE;rw[if_neg (by omega),if_pos h4]
def CellM.next(C:CellM)(s:Bytes):CellM:={C with now:=if C.now=0 then 1 else 0,gen:=C.gen+1,text:=s}
structure PutOk(C:CellM)(D:Dev)(s:Bytes)(n:Nat)(D':Dev):Prop where
 up:Up D' n
 es:D'.es=[]
 other:D'.sec C.other=pad (slotM (C.gen+1) s)
 same: ∀j:Int,0≤j→j<n→j≠C.other→D'.sec j=D.sec j
theorem other_in{C:CellM}{n:Nat}(h:C.ok n):0≤C.other∧C.other<n:=by
 have h1:=h.a;have h2:=h.b;unfold CellM.other;split<;>omega
theorem put_good{C:CellM}{D:Dev}{s:Bytes}{n:Nat}(hU:Up D n)(hC:C.ok n)(hs:s.length≤100)(hg:C.gen<4611686018427387904): ∃D',C.put D s=(0,C.next s,D')∧PutOk C D s n D':=by
 obtain⟨o1,o2⟩:=other_in hC;have hgen:=hC.gen;have hw:IntKind.i64.wrap (C.gen+1)=C.gen+1:=wr (by omega) (by omega);have hle:=slotM_le (C.gen+1) s
 have hwr:(D.write C.other (slotM (C.gen+1) s)).1=0:=by
  rw[hU.write,if_neg (by omega),if_neg (by omega)]
 have hU2:=hU.write_up C.other (slotM (C.gen+1) s);have hs1:=hU.sec_write_same hwr;obtain⟨w,hw2⟩: ∃w,D.write C.other (slotM (C.gen+1) s)=w:=⟨_,rfl⟩;have hso: ∀j:Int,j≠C.other→w.2.sec j=D.sec j:=fun j hj=>by rw[←hw2];exact hU.sec_write_other (Ne.symm hj) _
 rw[hw2]at hwr hU2 hs1;have hb:=hU2.barrier;refine⟨w.2.barrier.2,?_,hU2.barrier_up,barrier_es hU2,?_,fun j h0 h1 hj=>?_⟩
 ·rw[put_done (by omega) (by omega) (by rw[hw];exact hw2) hwr rfl (by rw[hb]),hw];rfl
 ·rw[hU2.sec_barrier o1 (by omega),hs1.1]
 ·rw[hU2.sec_barrier h0 (by omega),hso j hj]
theorem see_some(C:CellM)(i:Int)(q:Int × Bytes):C.see i (some q)=if C.gen<q.1 then{C with now:=i,gen:=q.1,text:=q.2}else C:=rfl
def pickC(a b:Int)(ra rb:Option (Int × Bytes)):CellM:=((CellM.init a b).see 0 ra).see 1 rb
theorem pick_nn(a b:Int):pickC a b none none=⟨a,b,-1,0,[]⟩:=rfl
theorem pick_sn(a b:Int){p:Int × Bytes}(hp:1≤p.1):pickC a b (some p) none=⟨a,b,0,p.1,p.2⟩:=by
 show(CellM.init a b).see 0 (some p)=_;rw[see_some,if_pos (by show(0:Int)<_;omega)];rfl
theorem pick_ns(a b:Int){q:Int × Bytes}(hq:1≤q.1):pickC a b none (some q)=⟨a,b,1,q.1,q.2⟩:=by
 show(CellM.init a b).see 1 (some q)=_;rw[see_some,if_pos (by show(0:Int)<_;omega)];rfl
theorem pick_ss(a b:Int){p q:Int × Bytes}(hp:1≤p.1):pickC a b (some p) (some q)=if p.1<q.1 then⟨a,b,1,q.1,q.2⟩else⟨a,b,0,p.1,p.2⟩:=by
 have h:(CellM.init a b).see 0 (some p)=⟨a,b,0,p.1,p.2⟩:=by rw[see_some,if_pos (by show(0:Int)<_;omega)];rfl
 unfold pickC;rw[h,see_some]
/-- What is opened behind a put is what was put. -/
theorem pick_next{a b:Int}{ra rb ra' rb':Option (Int × Bytes)}{s:Bytes}(hab:a≠b)(ha: ∀q,ra=some q→1≤q.1)(hb: ∀q,rb=some q→1≤q.1)
  (h1:(pickC a b ra rb).other=a→ra'=some ((pickC a b ra rb).gen+1,s)∧rb'=rb) (h2:(pickC a b ra rb).other=b→rb'=some ((pickC a b ra rb).gen+1,s)∧ra'=ra):pickC a b ra' rb'=(pickC a b ra rb).next s:=by
 cases ra with
 |none=>
  cases rb with
  |none=>
   obtain⟨rfl,rfl⟩:=h1 rfl;rw[pick_nn,pick_sn _ _ (by dsimp only;omega)];rfl
  |some q=>
   have hq:=hb q rfl;rw[pick_ns _ _ hq]at h1 ⊢;obtain⟨rfl,rfl⟩:=h1 rfl;rw[pick_ss _ _ (by dsimp only;omega),if_neg (by dsimp only;omega)];rfl
 |some p=>
  have hp:=ha p rfl;cases rb with
  |none=>
   rw[pick_sn _ _ hp]at h2 ⊢;obtain⟨rfl,rfl⟩:=h2 rfl;rw[pick_ss _ _ hp,if_pos (by dsimp only;omega)];rfl
  |some q=>
   have hq:=hb q rfl;rw[pick_ss _ _ hp]at h1 h2 ⊢
   by_cases hlt:p.1<q.1
   ·rw[if_pos hlt]at h1 ⊢;obtain⟨rfl,rfl⟩:=h1 rfl;rw[pick_ss _ _ (by dsimp only;omega),if_neg (by dsimp only;omega)];rfl
   ·rw[if_neg hlt]at h2 ⊢;obtain⟨rfl,rfl⟩:=h2 rfl;rw[pick_ss _ _ hp,if_pos (by dsimp only;omega)];rfl
theorem openC_ab(D:Dev)(a b:Int):(openC D a b).a=a∧(openC D a b).b=b:=by
 have h1:=seeTo_a D a b 2
 rwa[seeTo_two]at h1
theorem open_next{D D':Dev}{a b:Int}{s:Bytes}{n:Nat}(hn:D.l.length=n)(hok:openE D a b=0)(hs:s.length≤100)(hg:(openC D a b).gen<4611686018427387904)(hp:PutOk (openC D a b) D s n D'):openC D' a b=(openC D a b).next s:=by
 obtain⟨hC,-⟩:=openC_ok hok;rw[hn]at hC;have hsl:slotOk ((openC D a b).gen+1) s=true:=by rw[slotOk_iff];have:=hC.gen;omega
 have hro:readM (D'.sec (openC D a b).other)=some ((openC D a b).gen+1,s):=by rw[hp.other];exact readM_pad hsl
 have e:=openC_ab D a b;have hab:=hC.ab;have hina:=hC.a;have hinb:=hC.b;rw[e.1,e.2]at hab;rw[e.1]at hina;rw[e.2]at hinb;refine pick_next hab (fun q h=>(slotOk_iff.1 (readM_ok (g:=q.1) (t:=q.2) h)).1) (fun q h=>(slotOk_iff.1 (readM_ok (g:=q.1) (t:=q.2) h)).1) ?_ ?_
 ·intro(ho:(openC D a b).other=a);rw[ho]at hro;exact⟨hro,by rw[hp.same b hinb.1 hinb.2 (by rw[ho];exact Ne.symm hab)]⟩
 ·intro(ho:(openC D a b).other=b);rw[ho]at hro;exact⟨hro,by rw[hp.same a hina.1 hina.2 (by rw[ho];exact hab)]⟩
theorem open_same{D D':Dev}{a b:Int}(ha:D'.sec a=D.sec a)(hb:D'.sec b=D.sec b):openC D' a b=openC D a b:=by unfold openC;rw[ha,hb]
theorem open_new{n:Nat}{a b:Int}(ha:0≤a)(han:a<n)(hb:0≤b)(hbn:b<n):openC (Dev.new n) a b=CellM.init a b:=by
 have hz: ∀i:Int,0≤i→i<n→(Dev.new n).sec i=zsec:=fun i h0 h1=>by
  simp[Dev.sec,Dev.new,eget,show i.toNat<n by omega]
 unfold openC;rw[hz a ha han,hz b hb hbn,readM_zero];rfl
theorem new_up{n:Nat}(hn:n≤512):Up (Dev.new n) n:=⟨Dev.new_ok hn,by simp[Dev.new],rfl,rfl⟩
theorem openE_up{D:Dev}{n:Nat}(hU:Up D n){a b:Int}(hab:a≠b)(ha:0≤a∧a<n)(hb:0≤b∧b<n):openE D a b=0:=by
 refine openE_ok hab (by omega) (by rw[hU.len];omega) (by rw[hU.live];decide)
theorem put_else{D:Dev}{a b j:Int}{s:Bytes}{n:Nat}{D':Dev}(hp:PutOk (openC D a b) D s n D')(h0:0≤j)(h1:j<n)(ha:j≠a)(hb:j≠b):D'.sec j=D.sec j:=by
 refine hp.same j h0 h1 ?_;have e2:=openC_ab D a b;unfold CellM.other;rw[e2.1,e2.2];split<;>assumption
theorem sec_new{n:Nat}{i:Int}(h0:0≤i)(h1:i<n):(Dev.new n).sec i=zsec:=by
 simp[Dev.sec,Dev.new,eget,show i.toNat<n by omega]
/-- What a sector says as a record: the record, and whether there is one. -/
def unfrM(b:Bytes):RecM × Bool:=
 if b.length<(b[4]?.getD 0).toNat+5 then(⟨0,[],[]⟩,false)else
 if sumM ((b.drop 4).take ((b[4]?.getD 0).toNat+1))=ofBe4 b then((decM ((b.drop 5).take (b[4]?.getD 0).toNat)).1,decide ((decM ((b.drop 5).take (b[4]?.getD 0).toNat)).2=0))else(⟨0,[],[]⟩,false)
theorem unfr_cons(b0 b1 b2 b3 b4:UInt8)(r:Bytes):unfrM (b0::b1::b2::b3::b4::r)=if r.length+5<b4.toNat+5 then(⟨0,[],[]⟩,false)else
  if sumM ((b4::r).take (b4.toNat+1))=ofBe4 (b0::b1::b2::b3::b4::r)then((decM (r.take b4.toNat)).1,decide ((decM (r.take b4.toNat)).2=0))else(⟨0,[],[]⟩,false):=by
 unfold unfrM;simp only[List.getElem?_cons_succ,List.getElem?_cons_zero,Option.getD_some,List.drop_succ_cons,List.drop_zero,List.length_cons]
end Go.Sl