/- A part of the proof. -/
import Derived.Test.YtlignadmmopdmaaGreatGF
import Derived.Test.YtlignadmmopdmaaGreatGE
set_option linter.unusedVariables false
set_option linter.unusedSimpArgs false
set_option linter.constructorNameAsVariable false
namespace Go.Sl
def Db(n:Nat):Bytes:=[UInt8.ofNat (n / 16777216 % 256),UInt8.ofNat (n / 65536 % 256),UInt8.ofNat (n / 256 % 256),UInt8.ofNat (n % 256)]
def kE:Bytes→Nat
 |a::b::c::d::_=>a.toNat*16777216+b.toNat*65536+c.toNat*256+d.toNat
 |_=>0
theorem Ba{n:Nat}(h:n<4294967296)(r:Bytes):kE (Db n++r)=n:=by
 simp only[Db,List.cons_append,List.nil_append,kE,UInt8.toNat_ofNat'];omega
def S5(n:Nat):List Value:=[.int .u8 ((n / 16777216 % 256:Nat):Int),.int .u8 ((n / 65536 % 256:Nat):Int),.int .u8 ((n / 256 % 256:Nat):Int),.int .u8 ((n % 256:Nat):Int)]
theorem Jg(n:Nat):S5 n=av (Db n):=by
 simp[S5,Db,av,UInt8.toNat_ofNat']
def dG(rec:Bytes):Bytes:=Db (lY (UInt8.ofNat rec.length::rec))++(UInt8.ofNat rec.length::rec)
def jU(gen:Int)(s:Bytes):RecM:=⟨1,[gen],[s]⟩
def ke(gen:Int)(s:Bytes):Bool:= !(decide (gen<1)||decide (4611686018427387904<gen)||decide (100<(s.length:Int)))
def cG(gen:Int)(s:Bytes):Bytes:=if ke gen s then dG (bL (jU gen s))else []
theorem dy{gen:Int}{s:Bytes}:ke gen s=true↔1≤gen∧gen≤4611686018427387904∧s.length≤100:=by
 unfold ke;simp;omega
theorem FM{gen:Int}{s:Bytes}(h:ke gen s=true):(jU gen s).may:=by
 obtain⟨h1,h2,h3⟩:=dy.1 h;refine⟨by simp[jU],by simp[jU],by simp[jU],by simp[jU],?_,?_⟩
 · intro t ht;simp[jU]at ht;subst ht;omega
 · intro t ht;simp[jU]at ht;subst ht;omega
theorem uU{gen:Int}{s:Bytes}(h:ke gen s=true):(bL (jU gen s)).length≤113∧4≤(bL (jU gen s)).length:=by
 obtain⟨h1,h2,h3⟩:=dy.1 h;have h4:=il (oC (n:=gen) (by omega) (by omega))
 have h5:1≤(fN (mT gen)).length:=by
  by_cases h:mT gen<128
  · rw[nA h];simp
  · rw[nB h];simp
 simp[bL,jU,eZ,fJ];omega
theorem nV(r:Bytes):(dG r).length=r.length+5:=by simp[dG,Db]
theorem My{gen:Int}{s:Bytes}(h:ke gen s=true):(cG gen s).length≤118∧9≤(cG gen s).length:=by
 have:=uU h;unfold cG;rw[if_pos h,nV];omega
theorem y7(gen:Int)(s:Bytes):(cG gen s).length≤118:=by
 by_cases h:ke gen s=true
 · exact(My h).1
 · unfold cG;rw[if_neg h];simp
def oG(r:RecM):Bool:=decide (r.kind=1)&&decide (r.aH.length=1)&&decide (r.texts.length=1)&&ke (r.aH.headD 0) (r.texts.headD [])
def iY(b:Bytes):Option (Int × Bytes):=
 let n:=(b[4]?.getD 0).toNat
 if b.length<n+5 then none else
 if lY ((b.drop 4).take (n+1))=kE b then
  match lU ((b.drop 5).take n)with
  |some r=>if oG r then some (r.aH.headD 0,r.texts.headD [])else none
  |none=>none
 else none
theorem CO{r:RecM}(hr:r.may)(hl:(bL r).length<256)(x:Bytes):iY (dG (bL r)++x)=if oG r then some (r.aH.headD 0,r.texts.headD [])else none:=by
 have e4:(dG (bL r)++x)[4]? =some (UInt8.ofNat (bL r).length):=by simp[dG,Db]
 have en:(UInt8.ofNat (bL r).length).toNat=(bL r).length:=by rw[UInt8.toNat_ofNat'];omega
 have d4:(dG (bL r)++x).drop 4=UInt8.ofNat (bL r).length::(bL r++x):=by simp[dG,Db]
 have d5:(dG (bL r)++x).drop 5=bL r++x:=by simp[dG,Db]
 unfold iY;rw[e4,Option.getD_some,en];dsimp only;rw[if_neg (by rw[List.length_append,nV];omega),d4,d5];have t5:(UInt8.ofNat (bL r).length::(bL r++x)).take ((bL r).length+1)=UInt8.ofNat (bL r).length::bL r:=by simp
 have t6:(bL r++x).take (bL r).length=bL r:=by simp
 rw[t5,t6]
 have es:kE (dG (bL r)++x)=lY (UInt8.ofNat (bL r).length::bL r):=by
  unfold dG;rw[List.append_assoc];exact Ba (w5 _) _
 rw[es,if_pos rfl,nF hr]
theorem II{gen:Int}{s:Bytes}(h:ke gen s=true)(x:Bytes):iY (cG gen s++x)=some (gen,s):=by
 unfold cG;rw[if_pos h,CO (FM h) (by have:=(uU h).1;omega)];rw[if_pos (by simp[oG,jU,h])];rfl
theorem qu{gen:Int}{s:Bytes}(h:ke gen s=true):iY (pad (cG gen s))=some (gen,s):=II h _
theorem tA{b:Bytes}{g:Int}{t:Bytes}(h:iY b=some (g,t)):ke g t=true:=by
 unfold iY at h;dsimp only at h;split at h
 ·cases h
 ·split at h
  ·split at h
   ·rename_i r hr
    split at h
    ·rename_i hg
     cases h;unfold oG at hg;simp only[Bool.and_eq_true]at hg;exact hg.2
    ·cases h
   ·cases h
  ·cases h
theorem IJ:iY g8=none:=by
 unfold iY;have e4:g8[4]? =some 0:=by decide
 rw[e4];dsimp only[Option.getD_some];have:(0:UInt8).toNat=0:=rfl;rw[this,if_neg (by simp)];have:lU ((g8.drop 5).take 0)=none:=rfl;rw[this];split<;>rfl
structure a8 where
 a:Int
 b:Int
 now:Int
 gen:Int
 text:Bytes
def a8.Gm(C:a8)(i:Int)(r:Option (Int × Bytes)):a8:=match r with
 |some q=>if C.gen<q.1 then{C with now:=i,gen:=q.1,text:=q.2}else C
 |none=>C
def a8.init(a b:Int):a8:=⟨a,b,-1,0,[]⟩
def aF(D:az)(a b:Int):a8:=((a8.init a b).Gm 0 (iY (D.sec a))).Gm 1 (iY (D.sec b))
def cg(D:az)(a b:Int):Int:=if a=b∨min a b<0∨(D.l.length:Int)≤max a b then 1 else if D.dead=true then 30 else 0
def a8.other(C:a8):Int:=if C.now=0 then C.b else C.a
def a8.put(C:a8)(D:az)(s:Bytes):Int × a8 × az:=
 if(100:Int)<s.length then(3,C,D)else if C.gen=4611686018427387904 then(23,C,D)else
 let w:=D.write C.other (cG (IntKind.i64.wrap (C.gen+1)) s)
 if w.1≠0 then(w.1,C,w.2)else
 let b:=w.2.aJ
 if b.1≠0 then(b.1,C,b.2)else
 (0,{C with now:=if C.now=0 then 1 else 0,gen:=IntKind.i64.wrap (C.gen+1),text:=s},b.2)
structure a8.ok(C:a8)(n:Nat):Prop where
 a:0≤C.a∧C.a<n
 b:0≤C.b∧C.b<n
 ab:C.a≠C.b
 now:C.now= -1∨C.now=0∨C.now=1
 gen:0≤C.gen∧C.gen≤4611686018427387904
 text:C.text.length≤100
theorem a8.Rz{C:a8}{n:Nat}(h:C.ok n){i:Int}(hi:i=0∨i=1)(b:Bytes):(C.Gm i (iY b)).ok n:=by
 unfold a8.Gm;cases hr:iY b with
 |none=>exact h
 |some q=>
  dsimp only;split
  ·obtain⟨h1,h2,h3⟩:=dy.1 (tA (g:=q.1) (t:=q.2) hr);exact⟨h.a,h.b,h.ab,by dsimp only;omega,by dsimp only;omega,h3⟩
  ·exact h
theorem eW{D:az}{a b:Int}(h:cg D a b=0):(aF D a b).ok D.l.length∧D.dead=false:=by
 unfold cg at h;split at h
 ·cases h
 ·rename_i h1
  split at h
  ·cases h
  ·rename_i h2
   refine⟨?_,by simpa using h2⟩;have h0:(a8.init a b).ok D.l.length:=⟨by simp only[a8.init];omega,by simp only[a8.init];omega,by simp only[a8.init];omega,.inl rfl,by simp[a8.init],by simp[a8.init]⟩;exact a8.Rz (a8.Rz h0 (.inl rfl) _) (.inr rfl) _
theorem mO{C:a8}{D:az}(hC:C.ok D.l.length)(hD:D.ok)(s:Bytes):(C.put D s).2.1.ok D.l.length∧(C.put D s).2.2.ok:=by
 unfold a8.put;split
 ·exact⟨hC,hD⟩
 ·rename_i h1
  split
  ·exact⟨hC,hD⟩
  ·rename_i h2
   have hw:=az.jN hD C.other (cG (IntKind.i64.wrap (C.gen+1)) s);have hb:=az.gA hw;have hg:=hC.gen;dsimp only;split
   ·exact⟨hC,hw⟩
   ·split
    ·exact⟨hC,hb⟩
    ·refine⟨⟨hC.a,hC.b,hC.ab,?_,?_,?_⟩,hb⟩
     · dsimp only;split<;>omega
     · dsimp only;rw[wr (by omega) (by omega)];omega
     · dsimp only;omega
def gY(b:Bytes):Int × Bytes × Bool:=match iY b with
 |some q=>(q.1,q.2,true)
 |none=>(0,[],false)
theorem Fw(b:Bytes):iY b=if b.length<(b[4]?.getD 0).toNat+5 then none else if lY ((b.drop 4).take ((b[4]?.getD 0).toNat+1))=kE b∧(bX ((b.drop 5).take (b[4]?.getD 0).toNat)).2=0∧oG (bX ((b.drop 5).take (b[4]?.getD 0).toNat)).1=true then
  some ((bX ((b.drop 5).take (b[4]?.getD 0).toNat)).1.aH.headD 0,(bX ((b.drop 5).take (b[4]?.getD 0).toNat)).1.texts.headD [])else none:=by
 unfold iY;dsimp only;split
 ·rfl
 ·by_cases h:lY ((b.drop 4).take ((b[4]?.getD 0).toNat+1))=kE b
  ·rw[if_pos h];cases hr:lU ((b.drop 5).take (b[4]?.getD 0).toNat)with
   |none=>rw[iv hr];simp
   |some r=>
    rw[lC hr]
    by_cases hg:oG r=true<;>simp[hg,h]
  ·rw[if_neg h,if_neg (fun hh=>h hh.1)]
theorem Eb{r:RecM}(h:r.kind≠1∨(r.aH.length:Int)≠1∨(r.texts.length:Int)≠1∨(100:Int)<(r.texts.headD []).length∨r.aH.headD 0<1∨4611686018427387904<r.aH.headD 0): ¬oG r=true:=by
 unfold oG;simp only[Bool.and_eq_true,decide_eq_true_eq,dy];omega
theorem G8{r:RecM}(h1:r.kind=1)(h2:(r.aH.length:Int)=1)(h3:(r.texts.length:Int)=1)(h4: ¬(100:Int)<(r.texts.headD []).length)(h5: ¬r.aH.headD 0<1)(h6: ¬4611686018427387904<r.aH.headD 0):oG r=true:=by
 unfold oG;simp only[Bool.and_eq_true,decide_eq_true_eq,dy];omega
theorem qv{b0 b1 b2 b3 b4:UInt8}{r:Bytes}(h:(b0::b1::b2::b3::b4::r).length<b4.toNat+5∨ ¬lY ((b4::r).take (b4.toNat+1))=kE (b0::b1::b2::b3::b4::r)∨ ¬(bX (r.take b4.toNat)).2=0∨ ¬oG (bX (r.take b4.toNat)).1=true):
  gY (b0::b1::b2::b3::b4::r)=(0,[],false):=by
 unfold gY;rw[Fw];simp only[List.getElem?_cons_succ,List.getElem?_cons_zero,Option.getD_some,List.drop_succ_cons,List.drop_zero]
 by_cases h0:(b0::b1::b2::b3::b4::r).length<b4.toNat+5
 ·rw[if_pos h0]
 ·rw[if_neg h0,if_neg (fun⟨p,q,s⟩=>by rcases h with h|h|h|h;exact h0 h;exact h p;exact h q;exact h s)]
theorem IK{b0 b1 b2 b3 b4:UInt8}{r:Bytes}(h0: ¬(b0::b1::b2::b3::b4::r).length<b4.toNat+5)(h1:lY ((b4::r).take (b4.toNat+1))=kE (b0::b1::b2::b3::b4::r))(h2:(bX (r.take b4.toNat)).2=0)(h3:oG (bX (r.take b4.toNat)).1=true):
  gY (b0::b1::b2::b3::b4::r)=((bX (r.take b4.toNat)).1.aH.headD 0,(bX (r.take b4.toNat)).1.texts.headD [],true):=by
 unfold gY;rw[Fw];simp only[List.getElem?_cons_succ,List.getElem?_cons_zero,Option.getD_some,List.drop_succ_cons,List.drop_zero];rw[if_neg h0,if_pos ⟨h1,h2,h3⟩]
theorem NC{a b c d:Nat}(ha:a<256)(hb:b<256)(hc:c<256)(hd:d<256):
  S3 .u32 (S3 .u32 (S3 .u32 (IntKind.u32.wrap (IntKind.u32.wrap (a:Int)*2^(min (24:Int).toNat IntKind.u32.bits))) (IntKind.u32.wrap (IntKind.u32.wrap (b:Int)*2^(min (16:Int).toNat IntKind.u32.bits)))) (IntKind.u32.wrap (IntKind.u32.wrap (c:Int)*2^(min (8:Int).toNat IntKind.u32.bits)))) (IntKind.u32.wrap (d:Int))=
  ((a*16777216+b*65536+c*256+d:Nat):Int):=by
 rw[show IntKind.u32.wrap (IntKind.u32.wrap (a:Int)*2^(min (24:Int).toNat IntKind.u32.bits))=((2^24*a:Nat):Int)by rw[F4,F4];show((a:Int) % 4294967296*16777216) % 4294967296=_;omega,
  show IntKind.u32.wrap (IntKind.u32.wrap (b:Int)*2^(min (16:Int).toNat IntKind.u32.bits))=((2^16*b:Nat):Int)by rw[F4,F4];show((b:Int) % 4294967296*65536) % 4294967296=_;omega,
  show IntKind.u32.wrap (IntKind.u32.wrap (c:Int)*2^(min (8:Int).toNat IntKind.u32.bits))=((2^8*c:Nat):Int)by rw[F4,F4];show((c:Int) % 4294967296*256) % 4294967296=_;omega,
  show IntKind.u32.wrap (d:Int)=((d:Nat):Int)by rw[F4];omega]
 have e1:(2^24*a|||2^16*b)=2^24*a+2^16*b:=(Nat.two_pow_add_eq_or_of_lt (by omega) a).symm
 have e2:(2^24*a+2^16*b|||2^8*c)=2^24*a+2^16*b+2^8*c:=by
  have:=(Nat.two_pow_add_eq_or_of_lt (i:=16) (b:=2^8*c) (by omega) (2^8*a+b)).symm;rw[show 2^16*(2^8*a+b)=2^24*a+2^16*b by omega]at this;exact this
 have e3:(2^24*a+2^16*b+2^8*c|||d)=2^24*a+2^16*b+2^8*c+d:=by
  have:=(Nat.two_pow_add_eq_or_of_lt (i:=8) (b:=d) (by omega) (2^16*a+2^8*b+c)).symm;rw[show 2^8*(2^16*a+2^8*b+c)=2^24*a+2^16*b+2^8*c by omega]at this;exact this
 rw[Au rfl (by show _<4294967296;omega) (by show _<4294967296;omega),e1,Au rfl (by show _<4294967296;omega) (by show _<4294967296;omega),e2,Au rfl (by show _<4294967296;omega) (by show _<4294967296;omega),e3];omega
theorem aff{bs:Bytes}(h:5≤bs.length): ∃b0 b1 b2 b3 b4 r,bs=b0::b1::b2::b3::b4::r:=by
 match bs,h with
 |b0::b1::b2::b3::b4::r,_=>exact⟨b0,b1,b2,b3,b4,r,rfl⟩
theorem ni{α:Type}{l:List α}{d:α}(h:(l.length:Int)=1):l[0]? =some (l.headD d):=by
 match l,h with
 |x::_,_=>rfl
def jX(b0 b1 b2 b3 b4:UInt8)(r:Bytes)(rc:RecM)(er:Int):Prop:=
 r.length+5<b4.toNat+5∨ ¬lY ((b4::r).take (b4.toNat+1))=kE (b0::b1::b2::b3::b4::r)∨ ¬er=0∨(rc.kind≠1∨(rc.aH.length:Int)≠1∨(rc.texts.length:Int)≠1∨(100:Int)<(rc.texts.headD []).length∨rc.aH.headD 0<1∨4611686018427387904<rc.aH.headD 0)
theorem yP{b0 b1 b2 b3 b4:UInt8}{r:Bytes}:(jX b0 b1 b2 b3 b4 r (bX (r.take b4.toNat)).1 (bX (r.take b4.toNat)).2→gY (b0::b1::b2::b3::b4::r)=(0,[],false))∧
  (¬jX b0 b1 b2 b3 b4 r (bX (r.take b4.toNat)).1 (bX (r.take b4.toNat)).2→gY (b0::b1::b2::b3::b4::r)=((bX (r.take b4.toNat)).1.aH.headD 0,(bX (r.take b4.toNat)).1.texts.headD [],true)):=by
 constructor
 ·rintro(h|h|h|h)
  · exact qv (.inl (by simp only[List.length_cons];omega))
  · exact qv (.inr (.inl h))
  · exact qv (.inr (.inr (.inl h)))
  · exact qv (.inr (.inr (.inr (Eb h))))
 ·intro h;unfold jX at h;refine IK (by simp only[List.length_cons];omega) (by omega) (by omega) (G8 (by omega) (by omega) (by omega) (by omega) (by omega) (by omega))
theorem Rj{C:a8}{D:az}{s:Bytes}(h:(100:Int)<s.length):C.put D s=(3,C,D):=by unfold a8.put;rw[if_pos h]
theorem Rh{C:a8}{D:az}{s:Bytes}(h: ¬(100:Int)<s.length)(h2:C.gen=4611686018427387904):C.put D s=(23,C,D):=by unfold a8.put;rw[if_neg h,if_pos h2]
theorem Rk{C:a8}{D:az}{s:Bytes}{w:Int × az}(h: ¬(100:Int)<s.length)(h2: ¬C.gen=4611686018427387904)(hw:D.write C.other (cG (IntKind.i64.wrap (C.gen+1)) s)=w)(h3: ¬w.1=0):C.put D s=(w.1,C,w.2):=by
 unfold a8.put;rw[if_neg h,if_neg h2,hw];dsimp only;rw[if_pos h3]
theorem Rf{C:a8}{D:az}{s:Bytes}{w b:Int × az}(h: ¬(100:Int)<s.length)(h2: ¬C.gen=4611686018427387904)(hw:D.write C.other (cG (IntKind.i64.wrap (C.gen+1)) s)=w)(h3:w.1=0)(hb:w.2.aJ=b)(h4: ¬b.1=0):C.put D s=(b.1,C,b.2):=by
 unfold a8.put;rw[if_neg h,if_neg h2,hw];dsimp only;rw[if_neg (by simpa using h3),hb,if_pos h4]
theorem tu{C:a8}{D:az}{s:Bytes}{w b:Int × az}(h: ¬(100:Int)<s.length)(h2: ¬C.gen=4611686018427387904)(hw:D.write C.other (cG (IntKind.i64.wrap (C.gen+1)) s)=w)(h3:w.1=0)(hb:w.2.aJ=b)(h4:b.1=0):
  C.put D s=(0,{C with now:=if C.now=0 then 1 else 0,gen:=IntKind.i64.wrap (C.gen+1),text:=s},b.2):=by
 unfold a8.put;rw[if_neg h,if_neg h2,hw];dsimp only;rw[if_neg (by simpa using h3),hb,if_neg (by simpa using h4)]
theorem ak1(C:a8)(i:Int)(b:Bytes):C.Gm i (iY b)=if(gY b).2.2=true∧C.gen<(gY b).1 then{C with now:=i,gen:=(gY b).1,text:=(gY b).2.1}else C:=by
 unfold a8.Gm gY;cases iY b with
 |none=>simp
 |some q=>simp
def cellAt(a b:Int)(k:Nat):Int:=if k=0 then a else b
def qR(D:az)(a b:Int):Nat→a8
 |0=>a8.init a b
 |k+1=>(qR D a b k).Gm k (iY (D.sec (cellAt a b k)))
theorem Bl(D:az)(a b:Int):qR D a b 2=aF D a b:=rfl
theorem Ry(C:a8)(i:Int)(r:Option (Int × Bytes)):(C.Gm i r).a=C.a∧(C.Gm i r).b=C.b:=by
 unfold a8.Gm;cases r with
 |none=>exact⟨rfl,rfl⟩
 |some q=>dsimp only;split<;>exact⟨rfl,rfl⟩
theorem CW(D:az)(a b:Int): ∀k,(qR D a b k).a=a∧(qR D a b k).b=b
 |0=>⟨rfl,rfl⟩
 |k+1=>by
  have:=CW D a b k;unfold qR;rw[(Ry _ _ _).1,(Ry _ _ _).2];exact this
theorem tm{D:az}{a b:Int}(h1: ¬a=b)(h2: ¬min a b<0)(h3: ¬(D.l.length:Int)≤max a b)(h4: ¬D.dead=true):cg D a b=0:=by
 unfold cg;rw[if_neg (by omega),if_neg h4]
theorem uR{D:az}{a b:Int}(h:a=b∨min a b<0∨(D.l.length:Int)≤max a b):cg D a b=1:=by unfold cg;rw[if_pos h]
theorem IA{D:az}{a b:Int}(h1: ¬a=b)(h2: ¬min a b<0)(h3: ¬(D.l.length:Int)≤max a b)(h4:D.dead=true):cg D a b=30:=by
 unfold cg;rw[if_neg (by omega),if_pos h4]
def a8.next(C:a8)(s:Bytes):a8:={C with now:=if C.now=0 then 1 else 0,gen:=C.gen+1,text:=s}
structure Nn(C:a8)(D:az)(s:Bytes)(n:Nat)(D':az):Prop where
 up:Up D' n
 es:D'.es=[]
 other:D'.sec C.other=pad (cG (C.gen+1) s)
 same: ∀j:Int,0≤j→j<n→j≠C.other→D'.sec j=D.sec j
theorem yL{C:a8}{n:Nat}(h:C.ok n):0≤C.other∧C.other<n:=by
 have h1:=h.a;have h2:=h.b;unfold a8.other;split<;>omega
theorem Fu{C:a8}{D:az}{s:Bytes}{n:Nat}(hU:Up D n)(hC:C.ok n)(hs:s.length≤100)(hg:C.gen<4611686018427387904): ∃D',C.put D s=(0,C.next s,D')∧Nn C D s n D':=by
 obtain⟨o1,o2⟩:=yL hC;have EB:=hC.gen;have hw:IntKind.i64.wrap (C.gen+1)=C.gen+1:=wr (by omega) (by omega);have hle:=y7 (C.gen+1) s
 have JI:(D.write C.other (cG (C.gen+1) s)).1=0:=by
  rw[hU.write,if_neg (by omega),if_neg (by omega)]
 have hU2:=hU.Sf C.other (cG (C.gen+1) s);have fg:=hU.y4 JI;obtain⟨w,sS⟩: ∃w,D.write C.other (cG (C.gen+1) s)=w:=⟨_,rfl⟩;have LF: ∀j:Int,j≠C.other→w.2.sec j=D.sec j:=fun j hj=>by rw[←sS];exact hU.wG (Ne.symm hj) _
 rw[sS]at JI hU2 fg;have hb:=hU2.aJ;refine⟨w.2.aJ.2,?_,hU2.GG,GF hU2,?_,fun j h0 h1 hj=>?_⟩
 ·rw[tu (by omega) (by omega) (by rw[hw];exact sS) JI rfl (by rw[hb]),hw];rfl
 ·rw[hU2.vT o1 (by omega),fg.1]
 ·rw[hU2.vT h0 (by omega),LF j hj]
theorem tH(C:a8)(i:Int)(q:Int × Bytes):C.Gm i (some q)=if C.gen<q.1 then{C with now:=i,gen:=q.1,text:=q.2}else C:=rfl
def pR(a b:Int)(ra rb:Option (Int × Bytes)):a8:=((a8.init a b).Gm 0 ra).Gm 1 rb
theorem Vg(a b:Int):pR a b none none=⟨a,b,-1,0,[]⟩:=rfl
theorem Ke(a b:Int){p:Int × Bytes}(hp:1≤p.1):pR a b (some p) none=⟨a,b,0,p.1,p.2⟩:=by
 show(a8.init a b).Gm 0 (some p)=_;rw[tH,if_pos (by show(0:Int)<_;omega)];rfl
theorem Vh(a b:Int){q:Int × Bytes}(hq:1≤q.1):pR a b none (some q)=⟨a,b,1,q.1,q.2⟩:=by
 show(a8.init a b).Gm 1 (some q)=_;rw[tH,if_pos (by show(0:Int)<_;omega)];rfl
theorem tq(a b:Int){p q:Int × Bytes}(hp:1≤p.1):pR a b (some p) (some q)=if p.1<q.1 then⟨a,b,1,q.1,q.2⟩else⟨a,b,0,p.1,p.2⟩:=by
 have h:(a8.init a b).Gm 0 (some p)=⟨a,b,0,p.1,p.2⟩:=by rw[tH,if_pos (by show(0:Int)<_;omega)];rfl
 unfold pR;rw[h,tH]
theorem Bc{a b:Int}{ra rb ra' rb':Option (Int × Bytes)}{s:Bytes}(uF:a≠b)(ha: ∀q,ra=some q→1≤q.1)(hb: ∀q,rb=some q→1≤q.1)
  (h1:(pR a b ra rb).other=a→ra'=some ((pR a b ra rb).gen+1,s)∧rb'=rb) (h2:(pR a b ra rb).other=b→rb'=some ((pR a b ra rb).gen+1,s)∧ra'=ra):pR a b ra' rb'=(pR a b ra rb).next s:=by
 cases ra with
 |none=>
  cases rb with
  |none=>
   obtain⟨rfl,rfl⟩:=h1 rfl;rw[Vg,Ke _ _ (by dsimp only;omega)];rfl
  |some q=>
   have hq:=hb q rfl;rw[Vh _ _ hq]at h1 ⊢;obtain⟨rfl,rfl⟩:=h1 rfl;rw[tq _ _ (by dsimp only;omega),if_neg (by dsimp only;omega)];rfl
 |some p=>
  have hp:=ha p rfl;cases rb with
  |none=>
   rw[Ke _ _ hp]at h2 ⊢;obtain⟨rfl,rfl⟩:=h2 rfl;rw[tq _ _ hp,if_pos (by dsimp only;omega)];rfl
  |some q=>
   have hq:=hb q rfl;rw[tq _ _ hp]at h1 h2 ⊢
   by_cases EH:p.1<q.1
   ·rw[if_pos EH]at h1 ⊢;obtain⟨rfl,rfl⟩:=h1 rfl;rw[tq _ _ (by dsimp only;omega),if_neg (by dsimp only;omega)];rfl
   ·rw[if_neg EH]at h2 ⊢;obtain⟨rfl,rfl⟩:=h2 rfl;rw[tq _ _ hp,if_pos (by dsimp only;omega)];rfl
theorem im(D:az)(a b:Int):(aF D a b).a=a∧(aF D a b).b=b:=by
 have h1:=CW D a b 2
 rwa[Bl]at h1
theorem Ml{D D':az}{a b:Int}{s:Bytes}{n:Nat}(hn:D.l.length=n)(cq:cg D a b=0)(hs:s.length≤100)(hg:(aF D a b).gen<4611686018427387904)(hp:Nn (aF D a b) D s n D'):aF D' a b=(aF D a b).next s:=by
 obtain⟨hC,-⟩:=eW cq;rw[hn]at hC;have SG:ke ((aF D a b).gen+1) s=true:=by rw[dy];have:=hC.gen;omega
 have vC:iY (D'.sec (aF D a b).other)=some ((aF D a b).gen+1,s):=by rw[hp.other];exact qu SG
 have e:=im D a b;have uF:=hC.ab;have HB:=hC.a;have zW:=hC.b;rw[e.1,e.2]at uF;rw[e.1]at HB;rw[e.2]at zW;refine Bc uF (fun q h=>(dy.1 (tA (g:=q.1) (t:=q.2) h)).1) (fun q h=>(dy.1 (tA (g:=q.1) (t:=q.2) h)).1) ?_ ?_
 ·intro(ho:(aF D a b).other=a);rw[ho]at vC;exact⟨vC,by rw[hp.same b zW.1 zW.2 (by rw[ho];exact Ne.symm uF)]⟩
 ·intro(ho:(aF D a b).other=b);rw[ho]at vC;exact⟨vC,by rw[hp.same a HB.1 HB.2 (by rw[ho];exact uF)]⟩
theorem gm{D D':az}{a b:Int}(ha:D'.sec a=D.sec a)(hb:D'.sec b=D.sec b):aF D' a b=aF D a b:=by unfold aF;rw[ha,hb]
theorem Fl{n:Nat}{a b:Int}(ha:0≤a)(han:a<n)(hb:0≤b)(hbn:b<n):aF (az.new n) a b=a8.init a b:=by
 have hz: ∀i:Int,0≤i→i<n→(az.new n).sec i=g8:=fun i h0 h1=>by
  simp[az.sec,az.new,ix,show i.toNat<n by omega]
 unfold aF;rw[hz a ha han,hz b hb hbn,IJ];rfl
theorem Qe{n:Nat}(hn:n≤512):Up (az.new n) n:=⟨az.yy hn,by simp[az.new],rfl,rfl⟩
theorem nD{D:az}{n:Nat}(hU:Up D n){a b:Int}(uF:a≠b)(ha:0≤a∧a<n)(hb:0≤b∧b<n):cg D a b=0:=by
 refine tm uF (by omega) (by rw[hU.len];omega) (by rw[hU.live];decide)
theorem Be{b:Bytes}: ∀q,iY b=some q→1≤q.1:=fun q h=>(dy.1 (tA (g:=q.1) (t:=q.2) h)).1
theorem Rg{D:az}{a b j:Int}{s:Bytes}{n:Nat}{D':az}(hp:Nn (aF D a b) D s n D')(h0:0≤j)(h1:j<n)(ha:j≠a)(hb:j≠b):D'.sec j=D.sec j:=by
 refine hp.same j h0 h1 ?_;have e2:=im D a b;unfold a8.other;rw[e2.1,e2.2];split<;>assumption
theorem CV{n:Nat}{i:Int}(h0:0≤i)(h1:i<n):(az.new n).sec i=g8:=by
 simp[az.sec,az.new,ix,show i.toNat<n by omega]
structure Live(D:az)(n:Nat):Prop where
 ok:D.ok
 len:D.l.length=n
 live:D.dead=false
 es:D.es=[]
theorem Live.has{D:az}{n:Nat}(h:Live D n){i:Int}(h0:0≤i)(h1:i<n):D.has i=0:=by
 unfold az.has;rw[if_neg (by rw[h.live];decide),if_neg (by rw[h.len];omega)]
theorem vU{D:az}(he:D.es=[])(i:Int):D.sec i=(D.l[i.toNat]?).getD g8:=yZ he i
inductive ud(C:a8)(D:az)(s:Bytes)(n:Nat):Int × a8 × az→Prop where
 |ok (D':az) (h:Live D' n) (ho:D'.sec C.other=pad (cG (C.gen+1) s)) (hs: ∀j:Int,0≤j→j<n→j≠C.other→D'.sec j=D.sec j):ud C D s n (0,C.next s,D')
 |none (D':az) (h:D'.ok) (hl:D'.l=D.l) (he:D'.es=[]):ud C D s n (30,C,D')
 |half (D':az) (h:D'.ok) (hl:D'.l=D.l) (c:Nat) (he:D'.es=[(C.other,pad (cG (C.gen+1) s),c)]):ud C D s n (30,C,D')
theorem sa{D:az}(h:D.dA=0):D.act=(30,{D with dead:=true}):=by unfold az.act;rw[if_pos h]
theorem sb{D:az}(h: ¬D.dA=0): ∃f,D.act=(0,{D with dA:=f}):=by
 unfold az.act;rw[if_neg h];split
 · exact⟨_,rfl⟩
 · exact⟨D.dA,rfl⟩
theorem Vj{C:a8}{D:az}{s:Bytes}{n:Nat}(hL:Live D n)(hC:C.ok n)(hs:s.length≤100)(hg:C.gen<4611686018427387904):ud C D s n (C.put D s):=by
 obtain⟨o1,o2⟩:=yL hC;have EB:=hC.gen;have hw:IntKind.i64.wrap (C.gen+1)=C.gen+1:=wr (by omega) (by omega);have hle:=y7 (C.gen+1) s;have hh:=hL.has o1 o2
 by_cases hf:D.dA=0
 ·have e:D.write C.other (cG (C.gen+1) s)=(30,{D with dead:=true}):=by
   unfold az.write;rw[if_neg (by simpa using hh),if_neg (by omega),sa hf];rfl
  have cq:=az.jN hL.ok C.other (cG (C.gen+1) s);rw[e]at cq;rw[Rk (w:=(30,{D with dead:=true})) (by omega) (by omega) (by rw[hw];exact e) (by dsimp only;omega)];exact .none _ cq rfl hL.es
 ·obtain⟨f,OR⟩:=sb hf
  have e:D.write C.other (cG (C.gen+1) s)=(0,{D with dA:=f,es:=[(C.other,pad (cG (C.gen+1) s),D.wN)],wN:=D.wN+1}):=by
   unfold az.write;rw[if_neg (by simpa using hh),if_neg (by omega),OR,if_neg (by simp)];simp[hL.es,xD,we,GZ]
  have cq:=az.jN hL.ok C.other (cG (C.gen+1) s);rw[e]at cq;obtain⟨D1,Sw⟩: ∃D1:az,D1={D with dA:=f,es:=[(C.other,pad (cG (C.gen+1) s),D.wN)],wN:=D.wN+1}:=⟨_,rfl⟩;rw[←Sw]at e cq;have Wr:D1.dead=false:=by rw[Sw];exact hL.live
  have he1:D1.es=[(C.other,pad (cG (C.gen+1) s),D.wN)]:=by rw[Sw]
  have Cc:D1.l=D.l:=by rw[Sw]
  by_cases uH:D1.dA=0
  ·have eb:D1.aJ=(30,{D1 with dead:=true}):=by unfold az.aJ;rw[if_neg (by rw[Wr];decide),sa uH];rfl
   have Wp:=az.gA cq;rw[eb]at Wp;rw[Rf (w:=(0,D1)) (b:=(30,{D1 with dead:=true})) (by omega) (by omega) (by rw[hw];exact e) rfl eb (by dsimp only;omega)];exact .half _ Wp Cc D.wN he1
  ·obtain⟨f2,afV⟩:=sb uH;have eb:D1.aJ=(0,{D1 with dA:=f2,l:=eQ D1.es D1.l,es:=[]}):=by unfold az.aJ;rw[if_neg (by rw[Wr];decide),afV,if_neg (by simp)]
   have Wp:=az.gA cq;rw[eb]at Wp;rw[tu (w:=(0,D1)) (b:=(0,{D1 with dA:=f2,l:=eQ D1.es D1.l,es:=[]})) (by omega) (by omega) (by rw[hw];exact e) rfl eb rfl,hw];refine .ok {D1 with dA:=f2,l:=eQ D1.es D1.l,es:=[]} ⟨Wp,by simp[Cc,hL.len],Wr,rfl⟩ ?_ (fun j h0 h1 hj=>?_)
   ·rw[vU rfl];dsimp only;rw[he1,Cc];show(((D.l.set C.other.toNat _))[C.other.toNat]?).getD g8=_;rw[List.getElem?_set_self (by rw[hL.len];omega)];rfl
   ·rw[vU rfl,vU hL.es];dsimp only;rw[he1,Cc];show(((D.l.set C.other.toNat _))[j.toNat]?).getD g8=_;rw[List.getElem?_set_ne (by omega)]
theorem rJ{D D':az}{a b:Int}{s:Bytes}{n:Nat}(hC:(aF D a b).ok n)(hs:s.length≤100)(hg:(aF D a b).gen<4611686018427387904)
  (ho:iY (D'.sec (aF D a b).other)=some ((aF D a b).gen+1,s)) (WE: ∀j:Int,0≤j→j<n→j≠(aF D a b).other→D'.sec j=D.sec j):aF D' a b=(aF D a b).next s:=by
 have e:=im D a b;have uF:=hC.ab;have HB:=hC.a;have zW:=hC.b;rw[e.1,e.2]at uF;rw[e.1]at HB;rw[e.2]at zW;refine Bc uF Be Be ?_ ?_
 ·intro(h:(aF D a b).other=a);rw[h]at ho;exact⟨ho,by rw[WE b zW.1 zW.2 (by rw[h];exact Ne.symm uF)]⟩
 ·intro(h:(aF D a b).other=b);rw[h]at ho;exact⟨ho,by rw[WE a HB.1 HB.2 (by rw[h];exact uF)]⟩
theorem xw{D D':az}{n:Nat}(ks:dq)(hL:Live D n)(hl:D'.l=D.l)(he:D'.es=[])(j:Int):(D'.bD ks).sec j=D.sec j:=by
 rw[Ai he,vU he,hl,vU hL.es]
theorem vL: ∀(b:Bytes) (k:Nat) (q:Nat × Bytes),jy k b=some q→ ∃p,b=p++q.2
 | [],k,q,h=>by cases k<;>cases h
 |x::r,k,q,h=>by
  by_cases cq:(k=9∧1<x.toNat)∨(0<k∧x.toNat=0)
  ·rw[Fc cq]at h;cases h
  ·by_cases hx:x.toNat<128
   ·rw[A7 cq hx]at h;cases h;exact⟨[x],rfl⟩
   ·rw[A8 cq hx]at h;obtain⟨q',hq,rfl⟩:=Option.map_eq_some_iff.1 h;obtain⟨p,hp⟩:=vL r (k+1) q' hq;exact⟨x::p,by rw[hp];rfl⟩
theorem KO{bs r:Bytes}{oF:Nat}{p:Bytes}(h:bs.drop oF=p++r)(hle:oF≤bs.length):bs.drop (bs.length-r.length)=r∧r.length≤bs.length-oF:=by
 have hl:=congrArg List.length h;simp only[List.length_drop,List.length_append]at hl;have e:bs.length-r.length=oF+p.length:=by omega
 refine⟨?_,by omega⟩;rw[e,←List.drop_drop,h,List.drop_left]
theorem drop_cons{bs:Bytes}{k:Nat}(h:k<bs.length):bs.drop k=(bs[k]?.getD 0)::bs.drop (k+1):=by
 rw[List.drop_eq_getElem_cons h,List.getElem?_eq_getElem h];rfl
theorem xa{u:Nat}(h:u % 2=1):An u= -((u / 2:Nat):Int)- 1:=by unfold An;rw[if_neg (by omega)]
theorem xb{u:Nat}(h: ¬u % 2=1):An u=((u / 2:Nat):Int):=by unfold An;rw[if_pos (by omega)]
theorem Jo{bs:Bytes}{k u:Nat}{r:Bytes}{x:UInt8}(h:o4 bs k u (x::r))(cq: ¬((k=9∧1<x.toNat)∨(0<k∧x.toNat=0))):
  IntKind.u64.wrap (((u:Nat):Int)+IntKind.u64.wrap (((x.toNat % 128:Nat):Int)*((2^(7*k):Nat):Int)))=((u+x.toNat % 128*2^(7*k):Nat):Int):=by
 obtain⟨h1,h2⟩:=h.fit cq;rw[iN,iN];have e:((x.toNat % 128:Nat):Int)*((2^(7*k):Nat):Int)=((x.toNat % 128*2^(7*k):Nat):Int):=by simp
 rw[e];generalize x.toNat % 128*2^(7*k)=z at*;omega
theorem qq{k:Nat}(h:k≤8):IntKind.u64.wrap (((2^(7*k):Nat):Int)*128)=((2^(7*(k+1)):Nat):Int):=by
 have e:2^(7*(k+1))=2^(7*k)*128:=by rw[show 7*(k+1)=7*k+7 by omega,Nat.pow_add]
 have:=W7 h;rw[iN,e];generalize 2^(7*k)=z at*;omega
def jL(b:Bytes):RecM × Bool:=
 if b.length<(b[4]?.getD 0).toNat+5 then(⟨0,[],[]⟩,false)else
 if lY ((b.drop 4).take ((b[4]?.getD 0).toNat+1))=kE b then((bX ((b.drop 5).take (b[4]?.getD 0).toNat)).1,decide ((bX ((b.drop 5).take (b[4]?.getD 0).toNat)).2=0))else(⟨0,[],[]⟩,false)
def kV(bs:Bytes)(oF:Nat):Int × Int × Bool:=match jy 0 (bs.drop oF)with
 |some q=>(An q.1,((bs.length-q.2.length:Nat):Int),true)
 |none=>(0,0,false)
theorem Qv{bs:Bytes}{p:Nat}{nt:Int × Int × Bool}(h:kV bs p=nt)(h2:nt.2.2=false):jy 0 (bs.drop p)=none:=by
 subst h;unfold kV at h2;cases hq:jy 0 (bs.drop p)with
 |none=>rfl
 |some q=>rw[hq]at h2;cases h2
theorem Qw{bs:Bytes}{p:Nat}{nt:Int × Int × Bool}(h:kV bs p=nt)(hp:p≤bs.length)(h2:nt.2.2=true): ∃q,jy 0 (bs.drop p)=some q∧nt.1=An q.1∧nt.2.1=((bs.length-q.2.length:Nat):Int)∧bs.drop (bs.length-q.2.length)=q.2∧q.2.length≤bs.length:=by
 subst h;unfold kV at h2 ⊢;cases hq:jy 0 (bs.drop p)with
 |none=>rw[hq]at h2;cases h2
 |some q=>
  obtain⟨w,hw⟩:=vL _ _ _ hq;obtain⟨d1,d2⟩:=KO hw hp;exact⟨q,rfl,rfl,rfl,d1,by omega⟩
theorem Bt(b0 b1 b2 b3 b4:UInt8)(r:Bytes):jL (b0::b1::b2::b3::b4::r)=if r.length+5<b4.toNat+5 then(⟨0,[],[]⟩,false)else
  if lY ((b4::r).take (b4.toNat+1))=kE (b0::b1::b2::b3::b4::r)then((bX (r.take b4.toNat)).1,decide ((bX (r.take b4.toNat)).2=0))else(⟨0,[],[]⟩,false):=by
 unfold jL;simp only[List.getElem?_cons_succ,List.getElem?_cons_zero,Option.getD_some,List.drop_succ_cons,List.drop_zero,List.length_cons]
theorem Fs{C:a8}{D:az}{s:Bytes}{n:Nat}{r:Int × a8 × az}(h:ud C D s n r)(h0:r.1=0): ∃D',r=(0,C.next s,D')∧Live D' n∧D'.sec C.other=pad (cG (C.gen+1) s)∧(∀j:Int,0≤j→j<n→j≠C.other→D'.sec j=D.sec j):=by
 cases h with
 |ok D' h ho hs=>exact⟨D',rfl,h,ho,hs⟩
 |none D' h hl he=>cases h0
 |half D' h hl c he=>cases h0
theorem Fq{C:a8}{D:az}{s:Bytes}{n:Nat}{r:Int × a8 × az}(h:ud C D s n r)(h0: ¬r.1=0): ∃D',r=(30,C,D')∧D'.ok∧D'.l=D.l∧(D'.es=[]∨ ∃c,D'.es=[(C.other,pad (cG (C.gen+1) s),c)]):=by
 cases h with
 |ok D' h ho hs=>exact absurd rfl h0
 |none D' h hl he=>exact⟨D',rfl,h,hl,.inl he⟩
 |half D' h hl c he=>exact⟨D',rfl,h,hl,.inr ⟨c,he⟩⟩
end Go.Sl