/- A part of the proof. -/
import Derived.Test.YtlignadmmopdmaaGreatGC
import Derived.Test.YtlignadmmopdmaaGreatGB
import Derived.Test.YtlignadmmopdmaaGreatNodL
import Derived.Test.YtlignadmmopdmaaGreatUn
import Derived.Test.YtlignadmmopdmaaGreatN14
set_option linter.unusedVariables false
set_option linter.unusedSimpArgs false
set_option linter.constructorNameAsVariable false
namespace Go.Sl
variable {P : Program} {ops : Array Oper} {n : Nat} {rest : List Oper} {Q : Exit → Act → World → Prop} {l : List (Nat × Value)} {L M M' : List ax} {A B : ax}
end Go.Sl
namespace Go.Sl
section
variable {P : Program} {n : Nat} {l : List (Nat × Value)} {L : List ax} {d : Option Tmp} {ty : TypeId} {pos : String} {af : Array Edge} {g : Option (Nat × Bool)}
theorem yU(m:Nat)(zs:List Value):(bS m zs).length=m*zs.length:=by
 unfold bS
 induction m with
 |zero=>simp
 |succ m ih=>rw[List.replicate_succ,List.flatten_cons,List.length_append,ih,Nat.succ_mul];omega
theorem Gt [Env]{T e:TypeId}{x:Operand}{b o m c:Nat}{zv:Value}{zs vs vs':List Value}{E:TypeId}{L':List ax}(hx:ev l x=some (.slice (some ⟨b,o,none⟩) m c))(hu:P.underlying T=some (.slice e))
  (hzv: ∀w,(zeroValue e).run P w= .ok zv w) (LI:zv.cells=zs.toArray) (hz:0<zs.length) (h1: ∀u∈zs,u.oneCell'=true) (r:Rp L (sc b vs E) (sc b vs' E) L') (hv:o+m*zs.length≤vs.length)
  (he:vs.take o++bS m zs++vs.drop (o+m*zs.length)=vs'):
  Ac P n ⟨d,.call {callee:= .builtin .clear,args:= #[x],argTypes:= #[T]},ty,pos,af,g⟩ l L (fun v Nk=>v= .tuple #[]∧Nk=L'):=by
 intro a w hf hh;have hb:=hh.cells r.pk.choose_spec.1.in
 have h2: ∀u∈bS m zs,u.oneCell'=true:=by
  intro u hu;unfold bS at hu;obtain⟨q,hq,hu⟩:=List.mem_flatten.1 hu;rw[List.eq_of_mem_replicate hq]at hu;exact h1 u hu
 have gw:=run_storeCells_at P b o E (bS m zs) 0 vs.toArray w hb (by simp only[List.size_toArray,yU];omega) h2
 have e1:List.take (o+0) vs.toArray.toList++bS m zs++List.drop (o+0+(bS m zs).length) vs.toArray.toList=vs':=by
  rw[yU];exact he
 rw[e1]at gw;refine⟨.tuple #[],_,L',.inl ?_,⟨rfl,rfl⟩,hh.setRow r⟩;cases m with
 |zero=>
  have hv0:vs'=vs:=by rw[←he];simp[bS]
  subst hv0;simp[execOp,resolve,invoke,builtin,hf.ev hx,Builtin.clear_,run_underlying hu];rw[setRow_self w b _ _ _ hb]
 |succ m=>
  have hz2:=zu zs (m+1) hz;simp[execOp,resolve,invoke,builtin,hf.ev hx,Builtin.clear_,run_underlying hu,hzv,LI,hz2,gw]
end
end Go.Sl
namespace Go.Sl
open aa
inductive mF{σ:Type}(b:σ→ar→Bool)(nx:σ→ar→σ→Prop)(z0:σ):List ar→List ar→σ→Prop
 |nil:mF b nx z0 [] [] z0
 |del {l ks:List ar} {w:ar} {z1 z2:σ}:mF b nx z0 l ks z1→b z1 w=true→nx z1 w z2→mF b nx z0 (l++[w]) ks z2
 |Pu {l ks:List ar} {w:ar} {z1 z2:σ}:mF b nx z0 l ks z1→b z1 w=false→nx z1 w z2→mF b nx z0 (l++[w]) (ks++[w]) z2
theorem Az(p:aa→ar→Bool)(f:aa→ar→aa)(l:List ar)(n:aa)(w:ar):
  hY p f (l++[w]) n=if p (hY p f l n).2 w=true then((hY p f l n).1,f (hY p f l n).2 w)else((hY p f l n).1++[w],(hY p f l n).2):=by
 induction l generalizing n with
 |nil=>by_cases h:p n w=true<;>simp[aa.hY,h]
 |cons x l ih=>
  simp only[List.cons_append,hY];split
  ·exact ih _
  ·rw[ih];split<;>rfl
theorem mF.hY{σ:Type}{b:σ→ar→Bool}{nx:σ→ar→σ→Prop}{z0 z:σ}{l ks:List ar}(h:mF b nx z0 l ks z)(m:σ→aa){p:aa→ar→Bool}{f:aa→ar→aa}
  (hb: ∀z w,b z w=p (m z) w) (hn: ∀z w z',nx z w z'→m z'=if p (m z) w=true then f (m z) w else m z):hY p f l (m z0)=(ks,m z):=by
 induction h with
 |nil=>rfl
 |del _ h2 h3 ih=>
  rw[Az,ih,hn _ _ _ h3];rw[hb]at h2;simp only[if_pos h2]
 |Pu _ h2 h3 ih=>
  rw[Az,ih,hn _ _ _ h3];rw[hb]at h2;simp only[h2,if_neg (show¬false=true by simp)]
theorem Bm{ws:List ar}{i j:Nat}{w:ar}(Jy:i<j)(hj:j<ws.length)(hw:ws[j]? =some w):
  (ws.set i w).take (i+1)=ws.take i++[w]∧(ws.set i w).drop (j+1)=ws.drop (j+1):=by
 constructor
 ·rw[List.take_succ_eq_append_getElem (by simp;omega),List.getElem_set_self];rw[List.take_set_of_le (Nat.le_refl _)]
 ·rw[List.drop_set_of_lt (by omega)]
theorem MO{l:List ar}{i:Nat}{w:ar}{sp:List Value}(h:i<l.length):(a6 l++sp).take (i*7)++w.cells++(a6 l++sp).drop (i*7+7)=a6 (l.set i w)++sp:=by
 have hl:=cW l;rw[List.take_append_of_le_length (by omega),List.drop_append_of_le_length (by omega),←List.append_assoc];congr 1;have:=Jq (f:=ar.cells) kJ w h;rw[show(i+1)*7=i*7+7 by omega]at this;exact this
def vZ:List Value:=[.int .i64 0,.int .i64 0,.int .i64 0,.int .i64 0,.int .i64 0,.bool false,.int .i64 0]
theorem MN{l:List ar}{i m:Nat}{sp:List Value}(hi:i≤l.length)(hm:m=l.length-i):
  (a6 l++sp).take (i*7)++bS m vZ++(a6 l++sp).drop (i*7+m*7)=a6 (l.take i)++(bS m vZ++sp):=by
 have hl:=cW l;rw[List.take_append_of_le_length (by omega),show i*7+m*7=(a6 l).length by omega,List.drop_left,MM,sI kJ,List.append_assoc];rfl
theorem XV{l:List ar}{i b c:Nat}{sp:List Value}(h:bW (some (b,c,sp)) l.length 7 (a6 l))(hi:i≤l.length):
  bW (some (b,c,bS (l.length-i) vZ++sp)) (l.take i).length 7 (a6 (l.take i)):=by
 obtain⟨h1,h2,h3,h4⟩:=h;have hl:=cW l;have ht:=cW (l.take i);have hk:(l.take i).length=i:=by rw[List.length_take];omega
 refine⟨by omega,h2,ht,?_⟩;rw[List.length_append]at h4 ⊢;rw[List.length_append,yU,show vZ.length=7 from rfl,ht,hk];omega
theorem KP{ws wc:List ar}{j:Nat}(h:wc.drop j=ws.drop j):wc[j]? =ws[j]? ∧wc.drop (j+1)=ws.drop (j+1):=by
 constructor
 ·have h1:(wc.drop j)[0]? =(ws.drop j)[0]? :=by rw[h]
  simpa using h1
 ·rw[←List.drop_drop,←List.drop_drop,h]
end Go.Sl
namespace Go.Proofs
open _root_.Go.Proofs.Tryz
open Go Go.Sl
namespace W
set_option maxHeartbeats 2000000
def adC [Env]{σ:Type}(g:FuncId)(cs:Array Value)(P:σ→ax)(J:Nat→σ→Prop)(b:σ→ar→Bool)(nx:σ→ar→σ→Prop)(ws:List ar):Prop:=
 ∀(R:List ax) (k:Nat) (z:σ) (w:ar),J k z→k<ws.length→w∈ws→bC Tryz.prog g ([I4 w]++cs.toList) [P z] R (fun u L'=> ∃z',u= .bool (b z w)∧nx z w z'∧J (k+1) z'∧L'=[P z'])
theorem US [Env]{σ:Type}{R:List ax}{v:Value}{ws:List ar}{g:FuncId}{cs:Array Value}{P:σ→ax}{J:Nat→σ→Prop}{b:σ→ar→Bool}{nx:σ→ar→σ→Prop}{z0:σ}(hv:cE R v ws.length (a6 ws))(hl:ws.length<1000000)
   (bg: ∀(args:Array Value) (w:World),(callFunc g args).run Tryz.prog w= .ok (.enter g args) w) (hc:adC g cs P J b nx ws) (h0:J 0 z0):
   bC Tryz.prog 149 [v,.func (.func g) #[] cs] [P z0] R (fun u L'=> ∃z',L'=[P z']∧
     ((u=i64 (-1)∧mF b nx z0 ws ws z'∧J ws.length z')∨(∃i:Nat,i<ws.length∧u=i64 i∧mF b nx z0 (ws.take (i+1)) (ws.take i) z'∧J (i+1) z'))):=by
 refine ag func149 ntmps149 rfl rfl ?_;refine gc 4 ?_;refine bq ?_;intro K2 gM;refine gc 2 ?_;refine y (bu rfl underlying101 (cE.bo (by assumption))) rfl ?_;refine gy 3 ?_
 have fQ: ∀x:Nat × σ,((x.1≤ws.length∧mF b nx z0 (ws.take x.1) (ws.take x.1) x.2∧J x.1 x.2)∧(x.1=ws.length))→Sk 19 K2 ([(8,i64 x.1),(7,i64 ws.length),(0,v),(1,.func (.func g) #[] cs)]) ([P x.2]++R):=by
  rintro⟨k,z⟩ ⟨bJ,eK⟩;refine gM _ _ ?_;obtain⟨hk,hD,hJ⟩:=bJ;dsimp only at hk hD hJ ⊢;dsimp only at eK;rw[eK,List.take_length]at hD;rw[eK]at hJ;refine gc 5 ?_;refine aj results149 rfl (L1:=[P z]++R) ae ?_;exact⟨_,⟨z,rfl,.inl ⟨rfl,hD,hJ⟩⟩,rfl⟩
 clear gM;refine gc 1 ?_;refine bO (A:=Nat × σ) (fun x=>[(8,i64 x.1),(7,i64 ws.length),(0,v),(1,.func (.func g) #[] cs)]) (fun x=>[P x.2]++R) (fun x=>x.1≤ws.length∧mF b nx z0 (ws.take x.1) (ws.take x.1) x.2∧J x.1 x.2) (fun x=>ws.length-x.1) ((0,z0)) ?_ aq ae ?_
 · exact⟨Nat.zero_le _,.nil,h0⟩
 rintro⟨k,z⟩ bJ kt cI;have cC:=bJ;obtain⟨hk,hD,hJ⟩:=bJ;dsimp only at hk hD hJ ⊢;refine gc 5 ?_;refine cc rfl (fun h7=>?_) (fun h7=>?_)
 ·obtain⟨x,hx⟩: ∃t,ws[k]? =some t:=⟨_,List.getElem?_eq_getElem (by omega)⟩;refine gc 13 ?_;refine y (aK hv rfl rfl underlying101 sizeOf177 (by omega) (by omega)) rfl ?_;refine y (dB (us:=x.cells) (k*7) hv ae rfl isAgg177 sizeOf177 (by simp) (lb kJ hx) rfl) rfl ?_;refine lZ rfl (hc _ k z x hJ (by omega) (List.mem_of_getElem? hx)) rfl bg aZ rfl ?_;rintro v L' ⟨z2,rfl,qf,B2,rfl⟩;refine gy 2 ?_;refine cc rfl (fun nf=>?_) (fun nf=>?_)
  ·have Y0:mF b nx z0 (ws.take (k+1)) (ws.take k) z2:=by rw[dg hx];exact hD.del nf qf
   refine gc 11 ?_;refine aj results149 rfl (L1:=[P z2]++R) ae ?_;exact⟨_,⟨z2,rfl,.inr ⟨k,by omega,rfl,Y0,B2⟩⟩,rfl⟩
  have Y0:mF b nx z0 (ws.take (k+1)) (ws.take (k+1)) z2:=by rw[dg hx];exact hD.Pu nf qf
  refine gc 5 ?_;rw[show IntKind.i64.wrap ((k:Int)+1)=((k+1:Nat):Int)by rw[wr (by omega) (by omega)];rfl];refine gy 3 ?_;exact cI ((k+1,z2)) (⟨by omega,Y0,B2⟩) (by dsimp only;omega) _ _ aq ae
 refine gc 5 ?_;exact aV aq ae (fQ ⟨k,z⟩ ⟨cC,by dsimp only;omega⟩)
def am4{σ:Type}(P:σ→ax)(J:Nat→σ→Prop)(b:σ→ar→Bool)(nx:σ→ar→σ→Prop)(z0:σ)(ws:List ar)(u:Value)(L':List ax):Prop:=
 ∃z' ks s',u=aG s' ks.length∧bW s' ks.length 7 (a6 ks)∧mF b nx z0 ws ks z'∧J ws.length z'∧L'=[aD s' 177 (a6 ks),P z']
theorem UO [Env]{σ:Type}{R:List ax}{s:Sv}{ws:List ar}{g:FuncId}{cs:Array Value}{P:σ→ax}{J:Nat→σ→Prop}{b:σ→ar→Bool}{nx:σ→ar→σ→Prop}{z0:σ}(hs:bW s ws.length 7 (a6 ws))(hl:ws.length<1000000)
   (bg: ∀(args:Array Value) (w:World),(callFunc g args).run Tryz.prog w= .ok (.enter g args) w) (hc:adC g cs P J b nx ws) (h0:J 0 z0):
   bC Tryz.prog 171 [aG s ws.length,.func (.func g) #[] cs] [aD s 177 (a6 ws),P z0] R (am4 P J b nx z0 ws):=by
 refine ag func171 ntmps171 rfl rfl ?_;refine gc 7 ?_;refine aA (US (P:=P) (z0:=z0) ?hv4 hl bg hc h0) rfl call149 aZ rfl ?_
 case hv4=>exact bG aL hs
 rintro v L' ⟨z1,rfl,hcs⟩;refine gy 6 ?_;rcases hcs with⟨rfl,hD,hJn⟩|⟨i0,HA,rfl,hD,hJ0⟩
 ·refine gy 1 ?_
  skip
  refine gy 10 ?_;refine aj results171 rfl (L1:=[aD s 177 (a6 ws),P z1]++R) ae ?_;exact⟨_,⟨z1,ws,s,rfl,hs,hD,hJn,rfl⟩,rfl⟩
 refine gy 1 ?_;rw[show decide (((i0:Nat):Int)= -1)=false from decide_eq_false (by omega)];refine gy 5 ?_;refine bq ?_;intro K6 ma;refine gc 1 ?_;obtain⟨bw,cw,qT,rfl,hcw⟩:=w6 hs (by omega);have jt:cE [aD (some (bw,cw,qT)) 177 (a6 ws)] (aG (some (bw,cw,qT)) ws.length) ws.length (a6 ws):=bG .z hs;refine gy 2 ?_;rw[show IntKind.i64.wrap ((i0:Int)+1)=((i0+1:Nat):Int)by rw[wr (by omega) (by omega)];rfl];refine gy 3 ?_
 have fQ: ∀x:Nat × Nat × σ × List ar,((x.2.2.2.length=ws.length∧x.2.1≤ws.length∧x.1<x.2.1∧x.2.2.2.drop x.2.1=ws.drop x.2.1∧mF b nx z0 (ws.take x.2.1) (x.2.2.2.take x.1) x.2.2.1∧J x.2.1 x.2.2.1)∧(x.2.1=ws.length))→Sk 42 K6 ([(6,i64 x.2.1),(5,i64 x.1),(0,aG (some (bw,cw,qT)) ws.length),(1,.func (.func g) #[] cs)]) ([sc bw (a6 x.2.2.2++qT) 177,P x.2.2.1]++R):=by
  rintro⟨i,j,z,wc⟩ ⟨bJ,eK⟩;refine ma _ _ ?_;obtain⟨Gj,hj,Jy,vA,Y2,hJz⟩:=bJ;dsimp only at Gj hj Jy vA Y2 hJz ⊢;have JD:bW (some (bw,cw,qT)) wc.length 7 (a6 wc):=qA hs Gj (by rw[cW,cW,Gj]);have O7:cE [sc bw (a6 wc++qT) 177] (aG (some (bw,cw,qT)) ws.length) ws.length (a6 wc):=by rw[←Gj];exact bG (s:=some (bw,cw,qT)) .z JD
  dsimp only at eK;rw[eK,List.take_length]at Y2;rw[eK]at hJz;refine gc 3 ?_;refine y (mi jt rfl rfl underlying101 sizeOf177 (by omega) (by omega)) rfl ?_;have hic: ¬cw=i:=by omega
  rw[show qB (aG (some (bw,cw,qT)) ws.length) (i:Int).toNat ws.length 7= .slice (some ⟨bw,i*7,none⟩) (ws.length-i) (cw-i)by show sliced (some ⟨bw,0,none⟩) i ws.length cw 7=_;simp[sliced,hic,add_lit]];refine bA (Gt (zs:=vZ) (vs':=a6 (wc.take i)++(bS (wc.length-i) vZ++qT)) rfl underlying101 zeroValue177 rfl (by decide) (by simp[vZ,Value.oneCell']) bc (by rw[List.length_append,cW];show i*7+(ws.length-i)*7≤_;omega) (by rw[Gj];exact MN (m:=ws.length-i) (by omega) (by omega))) ?_;refine gy 5 ?_;refine y (wQ jt (vX hs) rfl rfl underlying101 sizeOf177 (by omega) (by omega)) rfl ?_;refine gy 4 ?_;refine aj results171 rfl (L1:=[sc bw _ 177,P z]++R) ae ?_;exact⟨_,⟨z,wc.take i,some (bw,cw,bS (wc.length-i) vZ++qT),by rw[show(wc.take i).length=i by rw[List.length_take];omega];show sliced (some ⟨bw,0,none⟩) 0 i cw 7= .slice (some ⟨bw,0,none⟩) i cw;simp[sliced,add_lit],XV JD (by omega),Y2,hJz,rfl⟩,rfl⟩
 clear ma;refine gc 1 ?_;refine bO (A:=Nat × Nat × σ × List ar) (fun x=>[(6,i64 x.2.1),(5,i64 x.1),(0,aG (some (bw,cw,qT)) ws.length),(1,.func (.func g) #[] cs)]) (fun x=>[sc bw (a6 x.2.2.2++qT) 177,P x.2.2.1]++R) (fun x=>x.2.2.2.length=ws.length∧x.2.1≤ws.length∧x.1<x.2.1∧x.2.2.2.drop x.2.1=ws.drop x.2.1∧mF b nx z0 (ws.take x.2.1) (x.2.2.2.take x.1) x.2.2.1∧J x.2.1 x.2.2.1) (fun x=>ws.length-x.2.1) ((i0,i0+1,z1,ws)) ?_ aq ae ?_
 · exact⟨rfl,by dsimp only;omega,Nat.lt_succ_self _,rfl,hD,hJ0⟩
 rintro⟨i,j,z,wc⟩ bJ kt cI;have cC:=bJ;obtain⟨Gj,hj,Jy,vA,Y2,hJz⟩:=bJ;dsimp only at Gj hj Jy vA Y2 hJz ⊢;have JD:bW (some (bw,cw,qT)) wc.length 7 (a6 wc):=qA hs Gj (by rw[cW,cW,Gj]);have O7:cE [sc bw (a6 wc++qT) 177] (aG (some (bw,cw,qT)) ws.length) ws.length (a6 wc):=by rw[←Gj];exact bG (s:=some (bw,cw,qT)) .z JD
 refine gc 4 ?_;refine y (pq rfl underlying101) rfl ?_;refine gy 3 ?_;refine cc rfl (fun Eg=>?_) (fun Eg=>?_)
 ·refine gc 5 ?_;obtain⟨w,hw⟩: ∃w,ws[j]? =some w:=⟨_,List.getElem?_eq_getElem (by omega)⟩;obtain⟨Wr,Ws⟩:=KP vA;have hwc:=Wr.trans hw;refine gy 2 ?_;refine y (aK O7 rfl rfl underlying101 sizeOf177 (by omega) (by omega)) rfl ?_;refine y (dB (us:=w.cells) (j*7) O7 ae rfl isAgg177 sizeOf177 (by simp) (lb kJ hwc) rfl) rfl ?_;refine ya (aB zeroValue177 rfl) rfl ?_;rintro v L' ⟨b7,rfl,rfl⟩;refine bA (aP (vs':=w.cells) rfl rfl (cY w) sizeOf177 bc rfl (by decide) rfl) ?_;refine gy 4 ?_;refine y (ak rfl isAgg177 sizeOf177 aL (by rfl)) rfl ?_;refine lZ rfl (hc _ j z w hJz (by omega) (List.mem_of_getElem? hw)) rfl bg aZ rfl ?_;rintro v L' ⟨z2,rfl,qf,B2,rfl⟩;refine gy 3 ?_;refine cc rfl (fun zN=>?_) (fun zN=>?_)
  ·have Y0:mF b nx z0 (ws.take (j+1)) ((wc.set i w).take (i+1)) z2:=by rw[dg hw,(Bm Jy (by omega) hwc).1];exact Y2.Pu (by simpa using zN) qf
   have hd3:(wc.set i w).drop (j+1)=ws.drop (j+1):=by rw[(Bm Jy (by omega) hwc).2,Ws]
   refine gc 3 ?_;refine y (ak rfl isAgg177 sizeOf177 aL (by rfl)) rfl ?_;refine y (aK jt rfl rfl underlying101 sizeOf177 (by omega) (by omega)) rfl ?_;rw[show sO (aG (some (bw,cw,qT)) ws.length)+(i:Int).toNat*7=i*7 by show 0+i*7=i*7;omega];refine bA (aP (us:=w.cells) (vs':=a6 (wc.set i w)++qT) rfl rfl (cY w) sizeOf177 bc rfl (by rw[List.length_append,cW];omega) (MO (by omega))) ?_;refine gy 5 ?_;rw[show IntKind.i64.wrap ((i:Int)+1)=((i+1:Nat):Int)by rw[wr (by omega) (by omega)];rfl];refine gy 7 ?_;rw[show IntKind.i64.wrap ((j:Int)+1)=((j+1:Nat):Int)by rw[wr (by omega) (by omega)];rfl];refine gy 3 ?_;exact cI (i+1,j+1,z2,wc.set i w) ⟨by simp[Gj],by dsimp only;omega,by dsimp only;omega,hd3,Y0,B2⟩ (by dsimp only;omega) _ _ aq ae
  have Y0:mF b nx z0 (ws.take (j+1)) (wc.take i) z2:=by rw[dg hw];exact Y2.del (by simpa using zN) qf
  refine gc 6 ?_;rw[show IntKind.i64.wrap ((j:Int)+1)=((j+1:Nat):Int)by rw[wr (by omega) (by omega)];rfl];refine gy 3 ?_;exact cI (i,j+1,z2,wc) ⟨Gj,by dsimp only;omega,by dsimp only;omega,Ws,Y0,B2⟩ (by dsimp only;omega) _ _ aq ae
 refine gc 5 ?_;exact aV aq ae (fQ ⟨i,j,z,wc⟩ ⟨cC,by dsimp only;omega⟩)
def ndV(F:NF)(V:NV)(n:aa):List Value:=[i64 n.id,i64 n.serial,i64 n.lease,i64 n.patience,i64 n.blocks,ptr F.pf,ptr F.pl,ptr F.A.p,i64 n.left,.bool n.down,.bool n.lost,i64 n.ah,i64 n.mask,i64 n.clock,i64 n.born,i64 n.change,i64 n.done.a,i64 n.done.b,i64 n.done.c,i64 n.done.d,i64 n.fj.a,i64 n.fj.b,i64 n.fj.c,i64 n.fj.d,i64 n.cT,aG V.out n.out.length,i64 n.role,i64 n.want,i64 n.cm,i64 n.quiet,aG V.sw n.waits.length,ptr V.ps]
theorem N6{F:NF}{V:NV}{n:aa}{c:Int}(h:c=0∨c=1∨c=2∨c=3)(v:Int):(ndV F V n).set (16+c.toNat) (i64 v)=ndV F V {n with done:=n.done.set c v}:=by
 rcases h with rfl|rfl|rfl|rfl<;>rfl
theorem N5{F:NF}{V:NV}{n:aa}{c:Int}(h:c=0∨c=1∨c=2∨c=3):(ndV F V n)[16+c.toNat]? =some (i64 (n.done.get c)):=by
 rcases h with rfl|rfl|rfl|rfl<;>rfl
def jT(n:aa)(w:ar):aa:=if aa.fW n w=true then n.je w else n
def adI(F:NF)(V:NV)(n n':aa)(p1:Nat)(b:Bool)(u:Value)(L':List ax):Prop:=
 ∃s,u= .bool b∧bW s n'.out.length 3 (fG n'.out)∧L'=[sc p1 [ptr F.p] 27,bB F {V with out:=s} n',aD s 42 (fG n'.out),eu V.ps V.si n.s]
theorem P4 [Env]{R:List ax}{F:NF}{V:NV}{n:aa}{w:ar}{p1:Nat}(hc:0≤w.cl∧w.cl≤3)(ho:nE V n)(hl:n.out.length≤1000000):
   bC Tryz.prog 178 [I4 w,ptr p1] [sc p1 [ptr F.p] 27,bB F V n,gH V n,eu V.ps V.si n.s] R (adI F V n (jT n w) p1 (aa.fW n w)):=by
 have hc4:w.cl=0∨w.cl=1∨w.cl=2∨w.cl=3:=by omega
 have hmx:(if w.n>n.done.get w.cl then w.n else n.done.get w.cl)=max (n.done.get w.cl) w.n:=by split<;>omega
 refine ag func178 ntmps178 rfl rfl ?_;refine gc 1 ?_;refine ya (a7 (vs:=w.cells) rfl rfl) rfl ?_;rintro v L' ⟨b2,rfl,rfl⟩;refine gy 9 ?_;refine cv 7 rfl (fun h7=>?_) (fun h7=>?_)
 ·refine gy 9 ?_;have fZ:aa.fW n w=false:=by unfold aa.fW;simp_all
  have Pb:jT n w=n:=by unfold jT;rw[if_neg (by rw[fZ];simp)]
  refine gy 5 ?_;refine aj results178 rfl (L1:=[sc p1 _ _,bB F V n,gH V n,eu V.ps V.si n.s]++R) ae ?_;rw[fZ,Pb];exact⟨_,⟨V.out,rfl,ho,rfl⟩,rfl⟩
 refine gy 1 ?_;refine bV ?_;refine y (ak rfl isAgg177 sizeOf177 aL (by rfl)) rfl ?_;refine bV ?_;refine bK (H9 (V:=V) (n:=n) (w:=w)) call179 ?_;refine gy 4 ?_;refine cc rfl (fun h15=>?_) (fun h15=>?_)
 ·refine gc 1 ?_;have fZ:aa.fW n w=false:=by unfold aa.fW;simp_all
  have Pb:jT n w=n:=by unfold jT;rw[if_neg (by rw[fZ];simp)]
  refine gy 5 ?_;refine aj results178 rfl (L1:=[sc p1 _ _,bB F V n,gH V n,eu V.ps V.si n.s]++R) ae ?_;rw[fZ,Pb];exact⟨_,⟨V.out,rfl,ho,rfl⟩,rfl⟩
 refine gc 3 ?_;refine aS 16 (od [] 16 0) (_) Tryz.mixed (by kernel_rfl) .refl ?_;have fZ:aa.fW n w=true:=by unfold aa.fW;simp_all
 have Pb:jT n w=n.je w:=by unfold jT;rw[if_pos fZ]
 rw[show bB F V n=sc F.p (ndV F V n) 106 from rfl];refine gh 8 ?_;refine hr rfl (dR rfl rfl underlying32 sizeOf2 (by omega) (by omega)) rfl ?_;refine hr rfl (bR (v:=i64 (n.done.get w.cl)) rfl isAgg2 aL (by show(ndV F V n)[0+16+w.cl.toNat*1]? =_;rw[Nat.zero_add,Nat.mul_one];exact N5 hc4)) rfl ?_;refine gh 2 ?_;refine hr rfl (mK rfl rfl) rfl ?_;rw[hmx];refine gh 2 ?_;refine hr rfl (dR rfl rfl underlying32 sizeOf2 (by omega) (by omega)) rfl ?_;refine gh 1 ?_;refine bA (an (vs':=ndV F V {n with done:=n.done.set w.cl (max (n.done.get w.cl) w.n)}) rfl rfl rfl sizeOf2 bc (by rcases hc4 with h|h|h|h<;>rw[h]<;>rfl) (by show(ndV F V n).set (0+16+w.cl.toNat*1) _=_;rw[Nat.zero_add,Nat.mul_one];exact N6 hc4 _)) ?_;refine gy 4 ?_;refine y (ak rfl isAgg177 sizeOf177 aL (by rfl)) rfl ?_;refine aA (gF (V:=V) (n:={n with done:=n.done.set w.cl (max (n.done.get w.cl) w.n)}) (w:=w) (data:=[]) ?aq3 ?Q1 ?abd) rfl call101 aZ rfl ?_
 case aq3=>exact hc
 case Q1=>exact ho
 case abd=>exact hl
 rintro v L' ⟨o31,rfl,aju,rfl⟩;refine gy 7 ?_;refine aj results178 rfl (L1:=[sc p1 _ _,bB F _ _,aD o31 _ _,eu V.ps V.si n.s]++R) ae ?_;rw[fZ,Pb];exact⟨_,⟨o31,rfl,aju,rfl⟩,rfl⟩
theorem P5 [Env]{R:List ax}{w:ar}{S:ax}:bC Tryz.prog 181 [I4 w] [S] R (Is (.bool (decide (w.op=2))) [S]):=by
 refine ag func181 ntmps181 rfl rfl ?_;refine gc 1 ?_;refine ya (a7 (vs:=w.cells) rfl rfl) rfl ?_;rintro v L' ⟨b1,rfl,rfl⟩;refine gy 11 ?_;refine aj results181 rfl (L1:=[S]++R) ae ?_;exact⟨_,⟨by rfl,rfl⟩,by rfl⟩
def Nf [Env]{σ:Type}(g:FuncId)(cs:Array Value)(Ps:σ→List ax)(J:Nat→σ→Prop)(b:σ→ar→Bool)(nx:σ→ar→σ→Prop)(ws:List ar):Prop:=
 ∀(R:List ax) (k:Nat) (z:σ) (w:ar),J k z→k<ws.length→w∈ws→bC Tryz.prog g ([I4 w]++cs.toList) (Ps z) R (fun u L'=> ∃z',u= .bool (b z w)∧nx z w z'∧J (k+1) z'∧L'=Ps z')
theorem E1 [Env]{σ:Type}{R:List ax}{s:Sv}{ws:List ar}{g:FuncId}{cs:Array Value}{Ps:σ→List ax}{J:Nat→σ→Prop}{b:σ→ar→Bool}{nx:σ→ar→σ→Prop}{z0:σ}(hs:bW s ws.length 7 (a6 ws))(hl:ws.length<1000000)
   (bg: ∀(args:Array Value) (w:World),(callFunc g args).run Tryz.prog w= .ok (.enter g args) w) (hc:Nf g cs Ps J b nx ws) (h0:J 0 z0):
   bC Tryz.prog 171 [aG s ws.length,.func (.func g) #[] cs] (aD s 177 (a6 ws)::Ps z0) R
     (fun u L'=> ∃z' ks s',u=aG s' ks.length∧bW s' ks.length 7 (a6 ks)∧mF b nx z0 ws ks z'∧J ws.length z'∧L'=aD s' 177 (a6 ks)::Ps z'):=
 (UO (R:=R) (P:=fun z=>(Ps z).flatten) hs hl bg (fun R k z w h1 h2 h3=>(hc R k z w h1 h2 h3).via (iU (Ps z) R).symm fun v L' ⟨z',h4,h5,h6,h7⟩=>⟨_,⟨z',h4,h5,h6,rfl⟩,h7▸iU (Ps z') R⟩) h0).via (by simp)
   fun v L' ⟨z',ks,s',h1,h2,h3,h5,h4⟩=>⟨_,⟨z',ks,s',h1,h2,h3,h5,rfl⟩,by rw[h4];simp⟩
def sdl(n:aa)(l:List gI)(t:T4):aa:={n with out:=l,done:=t}
abbrev Kq:=Sv × List gI × T4
def kG(n:aa)(z:Kq):aa:=sdl n z.2.1 z.2.2
abbrev acd(F:NF)(V:NV)(n:aa)(p1:Nat)(z:Kq):List ax:=[sc p1 [ptr F.p] 27,bB F {V with out:=z.1} (kG n z),aD z.1 42 (fG z.2.1),eu V.ps V.si n.s]
theorem Mv(n:aa)(z:Kq)(w:ar)(s:Sv):kG n (s,(jT (kG n z) w).out,(jT (kG n z) w).done)=jT (kG n z) w:=by
 unfold jT;split<;>rfl
theorem Mu(n:aa)(w:ar):(jT n w).out.length≤n.out.length+1:=by
 unfold jT;split
 · show(n.out++[_]).length≤_;simp
 omega
theorem RB [Env]{F:NF}{V:NV}{n:aa}{p1:Nat}(hw: ∀w∈n.waits,0≤w.cl∧w.cl≤3)(hl:n.waits.length≤16):
   Nf 178 #[ptr p1] (acd F V n p1) (fun k z=>bW z.1 z.2.1.length 3 (fG z.2.1)∧z.2.1.length≤990000+k) (fun z w=>aa.fW (kG n z) w) (fun z w z'=>kG n z'=jT (kG n z) w) n.waits:=by
 intro R k z w ⟨h1,h2⟩ h3 h4;refine(P4 (V:={V with out:=z.1}) (n:=kG n z) (p1:=p1) (hw w h4) h1 (by show z.2.1.length≤1000000;omega)).mono ?_;rintro u L' ⟨s,rfl,h5,rfl⟩;have e:=Mv n z w s;refine⟨(s,(jT (kG n z) w).out,(jT (kG n z) w).done),rfl,e,⟨h5,?_⟩,?_⟩
 · have:=Mu (kG n z) w;have:(kG n z).out.length=z.2.1.length:=rfl;show(jT (kG n z) w).out.length≤_;omega
 unfold acd;rw[e];rfl
theorem IP{n:aa}{z0 z1:Kq}{ks:List ar}(h0:kG n z0=n)(h:mF (fun z w=>aa.fW (kG n z) w) (fun z w z'=>kG n z'=jT (kG n z) w) z0 n.waits ks z1):n.fv={kG n z1 with waits:=ks}:=by
 have e:=h.hY (kG n) (p:=aa.fW) (f:=aa.je) (fun _ _=>rfl) (fun z w z' hx=>hx);rw[h0]at e;unfold aa.fv;rw[e]
set_option maxHeartbeats 4000000
theorem RA{n:aa}{z:Kq}{ks:List ar}(h:n.role=2)(h2:(n.s.l.length:Int)=0):({kG n z with waits:=ks}:aa).eo=({kG n z with waits:=ks}:aa).leads:=by
 unfold aa.eo;have h3:n.s.l.length=0:=by omega
 exact if_pos ⟨h,List.eq_nil_of_length_eq_zero h3⟩
theorem Kj{n:aa}{z:Kq}{ks:List ar}(h: ¬(n.role=2∧(n.s.l.length:Int)=0)):({kG n z with waits:=ks}:aa).eo={kG n z with waits:=ks}:=by
 unfold aa.eo;exact if_neg (fun hh=>h ⟨hh.1,by rw[show n.s.l=[]from hh.2];rfl⟩)
theorem kj(n:aa)(mk:Int): ∃c w l,n.changes mk={n with change:=c,want:=w,out:=l}:=by
 unfold aa.changes;dsimp only;split
 · exact⟨_,_,_,rfl⟩
 exact⟨_,_,_,rfl⟩
theorem ot(n:aa): ∃l,n.kW=dK n l:=⟨_,Ft _ n⟩
theorem acX{a b:T4}:qL a=qL b↔a=b:=by
 cases a;cases b;simp
theorem ab8{n:aa}(h: ¬n.cm=2):n.eP=n:=if_pos (.inl h)
theorem ab9{n:aa}(h: ¬n.want=0):n.eP=n:=if_pos (.inr (.inl h))
theorem aca{n:aa}(h:(0:Int)<(n.s.l.length:Int)):n.eP=n:=if_pos (.inr (.inr (.inl (fun e=>by rw[e]at h;exact absurd h (by decide)))))
theorem acb{n:aa}(h:(n.waits.any fun w=>decide (w.op=2))=true):n.eP=n:=if_pos (.inr (.inr (.inr h)))
theorem Vr{n:aa}(h1:n.cm=2)(h2:n.want=0)(h3: ¬(0:Int)<(n.s.l.length:Int))(h4:(n.waits.any fun w=>decide (w.op=2))=false):n.eP=if n.fj=n.done then n.changes 3 else aa.andThen n.note aa.kW:=by
 unfold aa.eP;refine if_neg ?_;have h5:n.s.l=[]:=List.eq_nil_of_length_eq_zero (by omega);rintro(h|h|h|h)
 · exact h h1
 · exact h h2
 · exact h h5
 rw[h4]at h;cases h
theorem tc [Env]{R:List ax}{F:NF}{V:NV}{n:aa}(hn:n.ok 980000)(hV:ct V n):
   bC Tryz.prog 117 [ptr F.p] (ao F V n) R (KN F n.settle (.tuple #[])):=by
 have zE:=hn.w.n;have WA:=hn.out;have oY: ∀w∈n.waits,0≤w.cl∧w.cl≤3:=fun w hw=>(hn.w.all w hw).cl
 have wx:bW V.sw n.waits.length 7 (a6 n.waits):=hV.sw;refine ag func117 ntmps117 rfl rfl ?_;unfold ao bB;refine gc 1 ?_;refine ya (a7 rfl rfl) rfl ?_;rintro v L' ⟨b1,rfl,rfl⟩;refine gy 3 ?_;refine aS 11 [(0,true),(1,true),(2,true),(3,true),(4,true),(6,true),(5,false),(7,false),(8,true),(9,true),(10,true)] ([sc b1 [ptr F.p] 27]++R) Tryz.mixed (by kernel_rfl) ae ?_;refine gh 5 ?_
 refine hr rfl (lE (vs:= #[ptr b1]) (fun a hf=>by
     have h1:a.eval (.tmp 1)=ptr b1:=hf.ev rfl;simp[h1])) rfl ?_
 refine ha rfl (fi (bR rfl isAgg101 aL rfl)) rfl ?_;rintro v L' ⟨rfl,rfl⟩;refine⟨ae,?_⟩;refine bg rfl (E1 (ws:=n.waits) (z0:=(V.out,n.out,n.done)) (Ps:=acd F V n b1) (cs:= #[ptr b1]) wx (by omega) call178 (RB oY zE) ⟨hV.out,by dsimp only;omega⟩) rfl call171 aZ rfl ?_;rintro v L' ⟨⟨o1,l1,t1⟩,ks,sw1,rfl,aba,hD,fQ,rfl⟩;refine⟨ae,?_⟩;refine gh 4 ?_;refine bA (an rfl rfl (by exact bN _ _) sizeOf101 bc rfl rfl) ?_;obtain⟨n1,mo⟩: ∃z,({kG n (o1,l1,t1)with waits:=ks}:aa)=z:=⟨_,rfl⟩;have fg:n.fv=n1:=(IP rfl hD).trans mo;have cD:n1.ok 980016:=fg▸hn.fv;have dN:ct {V with out:=o1,sw:=sw1} n1:=by rw[←mo];exact⟨fQ.1,aba,hV.si,hV.sl⟩
 obtain⟨n2,zB⟩: ∃z,n1.eo=z:=⟨_,rfl⟩;have eV:n2.ok 980016:=zB▸cD.eo;have jC:ct {V with out:=o1,sw:=sw1} n2:=by rw[←zB];unfold aa.eo;split<;>exact⟨dN.out,dN.sw,dN.si,dN.sl⟩
 have oP:n.settle=n2.reads.eP:=by unfold aa.settle;rw[fg,zB]
 refine gy 2 ?_;refine bq ?_;intro K3 pD
 have nh: ∀x:Unit,(True)→Sk 80 K3 ([(1,ptr b1)]) (sc b1 [ptr F.p] 27::ao F {V with out:=o1,sw:=sw1} n2++R):=by
  rintro x zO;refine pD _ _ ?_;refine gc 2 ?_;refine aA (yx (V:={V with out:=o1,sw:=sw1}) (n:=n2) ?aim ?amh) rfl call102 aZ rfl ?_
  case aim=>exact eV.le (by decide)
  case amh=>exact jC
  rintro v L' ⟨Gs,rfl,wI,rfl⟩;obtain⟨n3,qG⟩: ∃z,n2.reads=z:=⟨_,rfl⟩;rw[qG]at oP wI ⊢;have gb:n3.ok 980032:=qG▸eV.reads;refine gy 4 ?_;unfold ao bB;refine gy 7 ?_;refine cv 39 rfl (fun OA=>?_) (fun OA=>?_)
  ·have WC:n3.eP=n3:=ab8 (by simpa using OA);refine gy 30 ?_;refine bj results117 (L1:=ao F Gs n3++R) ae ?_;rw[oP,WC];exact⟨_,⟨Gs,rfl,wI,rfl⟩,rfl⟩
  have tZ:n3.cm=2:=by simpa using OA
  refine gy 8 ?_;refine cv 47 rfl (fun zN=>?_) (fun zN=>?_)
  ·have WC:n3.eP=n3:=ab9 (by simpa using zN);refine gy 22 ?_;refine bj results117 (L1:=ao F Gs n3++R) ae ?_;rw[oP,WC];exact⟨_,⟨Gs,rfl,wI,rfl⟩,rfl⟩
  have sS:n3.want=0:=by simpa using zN
  refine gy 5 ?_;refine bV ?_;refine aA (J3 ?RI ?asX) rfl call124 aZ rfl ?_
  case RI=>exact wI.si
  case asX=>have:=gb.s.n;omega
  rintro v L' ⟨s53,rfl,ajn,rfl⟩;refine bV ?_;refine y (bH rfl underlying168 (by assumption)) rfl ?_;refine gy 3 ?_;refine cv 57 rfl (fun Ld=>?_) (fun Ld=>?_)
  ·have WC:n3.eP=n3:=aca (by exact Ld);refine gy 12 ?_;refine bj results117 (L1:=ao F Gs n3++R) ae ?_;rw[oP,WC];exact⟨_,⟨Gs,rfl,wI,rfl⟩,rfl⟩
  have AO: ¬(0:Int)<(n3.s.l.length:Int):=by exact Ld
  refine gy 5 ?_;refine bV ?_;refine bK (J0 (ws:=n3.waits) (Ps:=[eu Gs.ps Gs.si n3.s]) (cs:= #[]) (p:=fun w=>decide (w.op=2)) ?agL (by have:=gb.w.n;omega) call181 (fun R x=>P5)) call95 ?_
  case agL=>exact(bG (s:=Gs.sw) .z wI.sw).mono ae
  refine gy 3 ?_;refine cc rfl (fun TG=>?_) (fun TG=>?_)
  ·have WC:n3.eP=n3:=acb TG;refine gc 2 ?_;refine bj results117 (L1:=ao F Gs n3++R) ae ?_;rw[oP,WC];exact⟨_,⟨Gs,rfl,wI,rfl⟩,rfl⟩
  have ru:=Vr tZ sS AO (by simpa using TG);refine gc 3 ?_;refine aS 8 (od [] 8 0) (_) Tryz.mixed (by kernel_rfl) .refl ?_;refine gh 3 ?_;refine hr rfl (ay (u:=qL n3.fj) rfl isAgg32 sizeOf32 aL rfl rfl) rfl ?_;refine gh 3 ?_;refine hr rfl (ay (u:=qL n3.done) rfl isAgg32 sizeOf32 aL rfl rfl) rfl ?_;refine gh 1 ?_;refine y (Jm (p:=n3.fj=n3.done) (xs:=qL n3.fj) (ys:=qL n3.done) rfl rfl (by kernel_rfl) acX) rfl ?_;refine gy 2 ?_;refine cc rfl (fun YR=>?_) (fun YR=>?_)
  ·rw[if_pos YR]at ru;refine gc 1 ?_;obtain⟨c9,w9,l9,AK⟩:=kj n3 3;refine gy 1 ?_;refine aA (ta (V:=Gs) (n:=n3) (mk:=3) ?anx ?aku ?arB) rfl call127 aZ rfl ?_
   case anx=>have:=gb.n.change;omega
   case aku=>exact wI.out
   case arB=>have:=gb.out;omega
   rintro v L' ⟨o75,rfl,W5,rfl⟩;rw[AK]at W5 ⊢;refine gy 1 ?_;refine aN results117 (L1:=ao F {Gs with out:=o75} {n3 with change:=c9,want:=w9,out:=l9}++R) ae ?_;rw[oP,ru,AK];exact⟨_,⟨{Gs with out:=o75},rfl,⟨W5,wI.sw,wI.si,wI.sl⟩,rfl⟩,rfl⟩
  rw[if_neg YR]at ru;refine gc 2 ?_;refine aA (PZ (V:=Gs) (n:=n3) ?aiB ?amw) rfl call170 aZ rfl ?_
  case aiB=>exact gb.le (by decide)
  case amw=>exact wI
  rintro v L' ⟨V77,rfl,ML,rfl⟩;refine gy 2 ?_;refine cc rfl (fun YT=>?_) (fun YT=>?_)
  ·have xX:n3.eP=n3.note.2.kW:=ru.trans (if_pos YT);have lf:=gb.note;refine gc 1 ?_;obtain⟨l9,nj⟩:=ot n3.note.2;refine gy 1 ?_;refine aA (J4 (V:=V77) (n:=n3.note.2) ?aqK ?akw ?arC ?alA ?asY) rfl call125 aZ rfl ?_
   case aqK=>exact lf.a.id
   case akw=>exact ML.out
   case arC=>have:=lf.out;omega
   case alA=>exact ML.si
   case asY=>have:=lf.s.n;omega
   rintro v L' ⟨o79,rfl,W6,rfl⟩;rw[nj]at W6 ⊢;refine gy 1 ?_;refine aN results117 (L1:=ao F {V77 with out:=o79} (dK n3.note.2 l9)++R) ae ?_;rw[oP,xX,nj];exact⟨_,⟨{V77 with out:=o79},rfl,⟨W6,ML.sw,ML.si,ML.sl⟩,rfl⟩,rfl⟩
  have xX:n3.eP=n3.note.2:=ru.trans (if_neg (by rw[YT];simp));refine gc 1 ?_;refine aN results117 (L1:=ao F V77 (n3.note.2)++R) ae ?_;rw[oP,xX];exact⟨_,⟨V77,rfl,ML,rfl⟩,rfl⟩
 clear pD;refine gc 8 ?_;refine cv 19 rfl (fun Hn=>?_) (fun Hn=>?_)
 ·have vC:n.role=2:=Hn;refine gy 5 ?_;refine bV ?_;refine aA (J3 ?alD ?asZ) rfl call124 aZ rfl ?_
  case alD=>exact hV.si
  case asZ=>have:=hn.s.n;omega
  rintro v L' ⟨s25,rfl,CF,rfl⟩;refine bV ?_;refine y (bH rfl underlying168 (by assumption)) rfl ?_;refine gy 4 ?_;refine cc rfl (fun h95=>?_) (fun h95=>?_)
  ·rw[←mo,RA vC h95]at zB;refine gc 2 ?_;refine bK (PX (V:={V with out:=o1,sw:=sw1}) (n:={kG n (o1,l1,t1)with waits:=ks})) call180 ?_;refine gy 2 ?_;subst zB;exact aV aq ae (nh () trivial)
  have AP: ¬(n.role=2∧(n.s.l.length:Int)=0):=fun hh=>h95 hh.2
  rw[←mo,Kj AP]at zB;refine gc 2 ?_;subst zB;exact aV aq ae (nh () trivial)
 have AP: ¬(n.role=2∧(n.s.l.length:Int)=0):=fun hh=>Hn hh.1
 rw[←mo,Kj AP]at zB;refine gy 14 ?_;subst zB;exact aV aq ae (nh () trivial)
theorem aaw [Env]{R:List ax}{F:NF}{V:NV}{n:aa}(hn:n.ok 970000)(hV:ct V n):
   bC Tryz.prog 119 [ptr F.p] (ao F V n) R (KN F n.ready (.tuple #[])):=by
 have cD:n.jl.ok 970000:=hn.ak2 (rs:=2) (q:=0) (by decide) (by decide);have eV:=cD.again;have gb:=eV.note;have dN:ct V n.jl:=⟨hV.out,hV.sw,hV.si,hV.sl⟩;refine ag func119 ntmps119 rfl rfl ?_;unfold ao bB;refine gc 6 ?_;refine bA (an rfl rfl (by rfl) sizeOf3 bc rfl rfl) ?_;refine gy 3 ?_;refine bA (an rfl rfl (by rfl) sizeOf2 bc rfl rfl) ?_;refine gy 4 ?_;refine aA (PN (V:=V) (n:=n.jl) ?ail ?amg) rfl call168 aZ rfl ?_
 case ail=>exact cD.le (by decide)
 case amg=>exact dN
 rintro v L' ⟨V11,rfl,amb,rfl⟩;refine gy 1 ?_;refine cv 12 rfl (fun KZ=>?_) (fun KZ=>?_)
 ·have ko:n.ready=aa.andThen n.jl.again.2.note aa.kW:=if_pos KZ;refine gy 1 ?_;refine bV ?_;refine aA (PZ (V:=V11) (n:=n.jl.again.2) ?ain ?ami) rfl call170 aZ rfl ?_
  case ain=>exact eV.le (by decide)
  case ami=>exact amb
  rintro v L' ⟨V14,rfl,MJ,rfl⟩;refine gy 3 ?_;refine cc rfl (fun Dc=>?_) (fun Dc=>?_)
  ·have tZ:n.ready=n.jl.again.2.note.2.kW:=ko.trans (if_pos Dc);refine gc 1 ?_;obtain⟨l9,nj⟩:=ot n.jl.again.2.note.2;refine gy 1 ?_;refine aA (J4 (V:=V14) (n:=n.jl.again.2.note.2) ?aqC ?akk ?arq ?alq ?asW) rfl call125 aZ rfl ?_
   case aqC=>exact gb.a.id
   case akk=>exact MJ.out
   case arq=>have:=gb.out;omega
   case alq=>exact MJ.si
   case asW=>have:=gb.s.n;omega
   rintro v L' ⟨o17,rfl,W3,rfl⟩;rw[nj]at W3 ⊢;refine gy 1 ?_;refine aN results119 (L1:=ao F {V14 with out:=o17} (dK n.jl.again.2.note.2 l9)++R) ae ?_;rw[tZ,nj];exact⟨_,⟨{V14 with out:=o17},rfl,⟨W3,MJ.sw,MJ.si,MJ.sl⟩,rfl⟩,rfl⟩
  have tZ:n.ready=n.jl.again.2.note.2:=ko.trans (if_neg (by rw[Dc];simp));refine gc 1 ?_;refine aN results119 (L1:=ao F V14 n.jl.again.2.note.2++R) ae ?_;rw[tZ];exact⟨_,⟨V14,rfl,MJ,rfl⟩,rfl⟩
 have ko:n.ready=n.jl.again.2:=if_neg (by rw[KZ];simp);refine gy 7 ?_;refine aN results119 (L1:=ao F V11 n.jl.again.2++R) ae ?_;rw[ko];exact⟨_,⟨V11,rfl,amb,rfl⟩,rfl⟩
theorem aaz [Env]{R:List ax}{F:NF}{V:NV}{n:aa}(hn:n.ok 970000)(hV:ct V n):
   bC Tryz.prog 126 [ptr F.p] (ao F V n) R (KN F n.k6 (.tuple #[])):=by
 have cD:=hn.df;have agF:=aa.Q7 cD;refine ag func126 ntmps126 rfl rfl ?_;unfold ao bB;refine gc 5 ?_;refine bA (an rfl rfl (by rfl) sizeOf2 bc rfl rfl) ?_;refine gy 5 ?_;refine bK (oc (V:=V) (n:=n.df)) call118 ?_;unfold bB;refine gy 2 ?_;refine cv 9 rfl (fun Su=>?_) (fun Su=>?_)
 ·refine gy 11 ?_;have JF:n.k6=n.df.changes n.df.own:=if_pos (by exact .inl (by simpa using ‹_›));obtain⟨c9,w9,l9,AK⟩:=kj n.df n.df.own;refine gy 2 ?_;refine bK (Ib (V:=V) (n:=n.df) ?aqF) call163 ?_
  case aqF=>exact hn.a.id
  refine aA (ta (V:=V) (n:=n.df) (mk:=n.df.own) ?anv ?Q1 ?abd) rfl call127 aZ rfl ?_
  case anv=>have:=cD.n.change;omega
  case Q1=>exact hV.out
  case abd=>have:=hn.out;show n.out.length≤1000000;omega
  rintro v L' ⟨o20,rfl,Fi,rfl⟩;rw[AK]at Fi ⊢;refine gy 4 ?_;refine bj results126 (L1:=ao F {V with out:=o20} {n.df with change:=c9,want:=w9,out:=l9}++R) ae ?_;rw[JF,AK];exact⟨_,⟨{V with out:=o20},rfl,⟨Fi,hV.sw,hV.si,hV.sl⟩,rfl⟩,rfl⟩
 refine gy 9 ?_;refine cc rfl (fun zz=>?_) (fun zz=>?_)
 ·refine gc 1 ?_;have JF:n.k6=n.df.changes n.df.own:=if_pos (by exact .inr ‹_›);obtain⟨c9,w9,l9,AK⟩:=kj n.df n.df.own;refine gy 2 ?_;refine bK (Ib (V:=V) (n:=n.df) ?aqH) call163 ?_
  case aqH=>exact hn.a.id
  refine aA (ta (V:=V) (n:=n.df) (mk:=n.df.own) ?anw ?Q2 ?abe) rfl call127 aZ rfl ?_
  case anw=>have:=cD.n.change;omega
  case Q2=>exact hV.out
  case abe=>have:=hn.out;show n.out.length≤1000000;omega
  rintro v L' ⟨o20,rfl,Fi,rfl⟩;rw[AK]at Fi ⊢;refine gy 4 ?_;refine bj results126 (L1:=ao F {V with out:=o20} {n.df with change:=c9,want:=w9,out:=l9}++R) ae ?_;rw[JF,AK];exact⟨_,⟨{V with out:=o20},rfl,⟨Fi,hV.sw,hV.si,hV.sl⟩,rfl⟩,rfl⟩
 refine gc 3 ?_;have JF:n.k6=n.df.mR.settle:=if_neg (by rintro(h|h)<;>simp_all);refine gy 4 ?_;refine bA (an rfl rfl (by rfl) sizeOf3 bc rfl rfl) ?_;refine gy 9 ?_;refine bK (nu ?alj ?aly) call51 ?_
 case alj=>exact hn.s.fit (by decide)
 case aly=>exact hV.si
 refine aA (A3) rfl call74 aZ rfl ?_;rintro v L' ⟨p32,rfl,rfl⟩;refine gy 3 ?_;refine bA (an rfl rfl (by rfl) sizeOf102 bc rfl rfl) ?_;refine gy 4 ?_;refine aA (tc (V:={V with ps:=p32,si:=none}) (n:=n.df.mR) ?aiz ?amu) rfl call117 aZ rfl ?_
 case aiz=>exact cD.mR.le (by decide)
 case amu=>exact⟨hV.out,hV.sw,⟨rfl,rfl⟩,hV.sl⟩
 rintro v L' ⟨V37,rfl,atk,rfl⟩;refine gy 1 ?_;refine aN results126 (L1:=ao F V37 n.df.mR.settle++R) ae ?_;rw[JF];exact⟨_,⟨V37,rfl,atk,rfl⟩,rfl⟩
theorem UI [Env]{R:List ax}{F:NF}{V:NV}{n:aa}(hn:n.ok 970000)(hV:ct V n):
   bC Tryz.prog 164 [ptr F.p] (ao F V n) R (KN F n.nN (.tuple #[])):=by
 have cD:=hn.marks;refine ag func164 ntmps164 rfl rfl ?_;refine gc 3 ?_;refine aA (yw ?aqQ ?atp) rfl call167 aZ rfl ?_
 case aqQ=>exact hn.le (by decide)
 case atp=>exact hV
 rintro v L' ⟨V3,rfl,vk3,rfl⟩;obtain⟨n1,mo⟩: ∃z,n.marks.2=z:=⟨_,rfl⟩;rw[mo]at cD vk3 ⊢;unfold ao bB;refine gy 3 ?_;refine cc rfl (fun h4=>?_) (fun h4=>?_)
 ·have zT:n.nN=n1:=(if_neg (by simpa using h4)).trans mo;refine gc 2 ?_;refine bj results164 (L1:=ao F V3 n1++R) ae ?_;rw[zT];exact⟨_,⟨V3,rfl,vk3,rfl⟩,rfl⟩
 have zT:n.nN=n1.kM.gx.fY.settle:=by rw[←mo];exact if_pos (by simpa using h4)
 obtain⟨n3,qG⟩: ∃z,n1.kM.gx=z:=⟨_,rfl⟩;have eV:n1.kM.ok 970000:=cD.y5 (.new _ _);have gb:n3.ok 970000:=qG▸eV.gx;rw[qG]at zT;refine gc 9 ?_;refine bK (nu ?alc ?alp) call51 ?_
 case alc=>exact cD.s.fit (by decide)
 case alp=>exact vk3.si
 refine aA (A3) rfl call74 aZ rfl ?_;rintro v L' ⟨SM,rfl,rfl⟩;refine gy 2 ?_;have zA:ct {V3 with ps:=SM,si:=none} n3:=by rw[←qG];unfold aa.gx;split<;>exact⟨vk3.out,vk3.sw,⟨rfl,rfl⟩,vk3.sl⟩
 refine gy 1 ?_;refine bA (an rfl rfl (by rfl) sizeOf102 bc rfl rfl) ?_;refine gy 2 ?_;refine bq ?_;intro K4 wj
 have nh: ∀x:Unit,(True)→Sk 28 K4 ([(0,ptr F.p)]) (ao F {V3 with ps:=SM,si:=none} n3++R):=by
  rintro x zO;refine wj _ _ ?_;refine gc 2 ?_;refine aA (J5 (V:={V3 with ps:=SM,si:=none}) (n:=n3) ?aio ?amj) rfl call116 aZ rfl ?_
  case aio=>exact gb.le (by decide)
  case amj=>exact zA
  rintro v L' ⟨Xn,rfl,Al,rfl⟩;refine gy 4 ?_;refine aA (tc (V:=Xn) (n:=n3.fY) ?aip ?amk) rfl call117 aZ rfl ?_
  case aip=>exact gb.fY.le (by decide)
  case amk=>exact Al
  rintro v L' ⟨jz,rfl,eY,rfl⟩;refine gy 1 ?_;refine aN results164 (L1:=ao F jz n3.fY.settle++R) ae ?_;rw[zT];exact⟨_,⟨jz,rfl,eY,rfl⟩,rfl⟩
 clear wj;refine gc 9 ?_;refine cc rfl (fun Gb=>?_) (fun Gb=>?_)
 ·rw[show n1.kM.gx=n1.kM.leads from if_pos Gb]at qG;refine gc 2 ?_;refine bK (PX (V:={V3 with ps:=SM,si:=none}) (n:=n1.kM)) call180 ?_;refine gy 2 ?_;subst qG;exact aV aq ae (nh () trivial)
 rw[show n1.kM.gx=n1.kM from if_neg Gb]at qG;refine gc 2 ?_;subst qG;exact aV aq ae (nh () trivial)
theorem PR [Env]{R:List ax}{F:NF}{V:NV}{n:aa}{mk:Int}(hn:n.ok 970000)(hV:ct V n)(hm:gg mk):
   bC Tryz.prog 107 [ptr F.p,i64 mk] (ao F V n) R (KN F (n.changed mk) (.tuple #[])):=by
 have AK:n.changed mk=(n.cj mk).mX mk:=rfl;have cD:(n.cj mk).ok 970000:=hn.cj hm;have dN:ct V (n.cj mk):=⟨hV.out,hV.sw,hV.si,hV.sl⟩;obtain⟨r,hR⟩: ∃z,(n.cj mk).dr.clear (n.cj mk).d=z:=⟨_,rfl⟩;have eV:(((n.cj mk).iG r).err r.1).ok 970000:=by rw[←hR];exact cD.BK
 refine ag func107 ntmps107 rfl rfl ?_;unfold ao bB;refine gc 9 ?_;refine bA (an rfl rfl (by rfl) sizeOf3 bc rfl rfl) ?_;refine gy 3 ?_;refine bA (an rfl rfl (by rfl) sizeOf3 bc rfl rfl) ?_;refine gy 3 ?_;refine bA (an rfl rfl (by rfl) sizeOf2 bc rfl rfl) ?_;refine gy 2 ?_;refine bA (an rfl rfl (by rfl) sizeOf3 bc rfl rfl) ?_;refine gy 12 ?_;refine cc rfl (fun OH=>?_) (fun OH=>?_)
 ·have OU:n.changed mk=aa.andThen ((n.cj mk).BM r) aa.settle:=AK.trans ((if_pos OH).trans (by rw[hR]));refine gc 6 ?_;refine bK (X5 (L:=(n.cj mk).dr) (D:=(n.cj mk).d) ?anO) call162 ?_
  case anO=>exact cD.p.dr
  rw[hR];refine bK (qP (V:=V) (n:=(n.cj mk).iG r)) call121 ?_;refine gy 2 ?_;refine cc rfl (fun xP=>?_) (fun xP=>?_)
  ·have xU:n.changed mk=(((n.cj mk).iG r).err r.1).settle:=OU.trans (if_pos (decide_eq_true xP));refine gc 2 ?_;refine aA (tc (V:=V) (n:=((n.cj mk).iG r).err r.1) ?aiy ?amt) rfl call117 aZ rfl ?_
   case aiy=>exact eV.le (by decide)
   case amt=>exact⟨dN.out,dN.sw,dN.si,dN.sl⟩
   rintro v L' ⟨V33,rfl,atj,rfl⟩;refine gy 2 ?_;refine aN results107 (L1:=ao F V33 (((n.cj mk).iG r).err r.1).settle++R) ae ?_;rw[xU];exact⟨_,⟨V33,rfl,atj,rfl⟩,rfl⟩
  have xU:n.changed mk=((n.cj mk).iG r).err r.1:=OU.trans (if_neg (by show¬decide (r.1=0)=true;simpa using xP));refine gc 2 ?_;refine aN results107 (L1:=ao F V (((n.cj mk).iG r).err r.1)++R) ae ?_;rw[xU];exact⟨_,⟨V,rfl,⟨dN.out,dN.sw,dN.si,dN.sl⟩,rfl⟩,rfl⟩
 have h3: ¬mk=3:=OH;refine gc 2 ?_;refine bK (Ib (V:=V) (n:=(n.cj mk)) ?aqI) call163 ?_
 case aqI=>exact hn.a.id
 refine gy 4 ?_;refine cc rfl (fun Gd=>?_) (fun Gd=>?_)
 ·have xU:n.changed mk=(n.cj mk).nN:=AK.trans ((if_neg h3).trans (if_pos Gd));refine gc 2 ?_;refine aA (UI (V:=V) (n:=n.cj mk) ?aiA ?amv) rfl call164 aZ rfl ?_
  case aiA=>exact cD
  case amv=>exact dN
  rintro v L' ⟨Dt,rfl,oX,rfl⟩;refine gy 2 ?_;refine aN results107 (L1:=ao F Dt (n.cj mk).nN++R) ae ?_;rw[xU];exact⟨_,⟨Dt,rfl,oX,rfl⟩,rfl⟩
 have xU:n.changed mk=(n.cj mk).du:=AK.trans ((if_neg h3).trans (if_neg Gd));refine gc 2 ?_;refine aA (ql (V:=V) (n:=n.cj mk)) rfl call106 aZ rfl ?_;rintro v L' ⟨p22,rfl,rfl⟩;refine gy 2 ?_;refine aN results107 (L1:=ao F (V.bare p22) (n.cj mk).du++R) ae ?_;rw[xU];exact⟨_,⟨V.bare p22,rfl,⟨dN.out,⟨rfl,rfl⟩,⟨rfl,rfl⟩,dN.sl⟩,rfl⟩,rfl⟩
theorem P2 [Env]{R:List ax}{F:NF}{V:NV}{n:aa}{m:aM}:bC Tryz.prog 97 [ptr F.p,.agg m.cells.toArray] [bB F V n] R (Is (i64 (n.refused m)) [bB F V n]):=by
 refine ag func97 ntmps97 rfl rfl ?_;unfold bB;refine gc 1 ?_;refine ya (a7 (vs:=m.cells) rfl rfl) rfl ?_;rintro v L' ⟨b3,rfl,rfl⟩;refine gy 15 ?_;refine cc rfl (fun Ha=>?_) (fun Ha=>?_)
 ·refine gc 7 ?_;refine aj results97 rfl (L1:=[sc F.p _ 106]++R) ae ?_;refine⟨_,⟨?_,rfl⟩,rfl⟩;unfold aa.refused;(repeat' split)<;>rfl
 refine gc 4 ?_;refine bK (ahY (V:=V) (n:=n)) call150 ?_;refine gy 4 ?_;refine cc rfl (fun Dc=>?_) (fun Dc=>?_)
 ·refine gc 7 ?_;refine aj results97 rfl (L1:=[sc F.p _ 106]++R) ae ?_;refine⟨_,⟨?_,rfl⟩,rfl⟩;unfold aa.refused;(repeat' split)<;>first|rfl|(exfalso;omega)
 refine gc 3 ?_;refine bK (qm) call41 ?_;refine gy 4 ?_;refine cc rfl (fun TA=>?_) (fun TA=>?_)
 ·have hsq:m.seq<1∨4<m.seq:=by
    have:=TA;unfold aI at this;simp at this;omega
  refine gc 7 ?_;refine aj results97 rfl (L1:=[sc F.p _ 106]++R) ae ?_;refine⟨_,⟨?_,rfl⟩,rfl⟩;unfold aa.refused;(repeat' split)<;>first|rfl|(exfalso;omega)
 have hsq: ¬(m.seq<1∨4<m.seq):=by
   have:=ca.1 (by simpa using TA:aI m.seq 1 4=true);omega
 refine gc 1 ?_;refine aS 17 (od [] 17 0) (_) Tryz.mixed (by kernel_rfl) .refl ?_;unfold bB;refine gh 4 ?_;refine fZ 27 rfl (fun Su=>?_) (fun Su=>?_)
 ·refine gh 4 ?_;refine fZ 31 rfl (fun TD=>?_) (fun TD=>?_)
  ·refine gh 21 ?_;refine aj results97 rfl (L1:=[sc F.p _ 106]++R) ae ?_;refine⟨_,⟨?_,rfl⟩,rfl⟩;unfold aa.refused;(repeat' split)<;>first|rfl|(exfalso;omega)
  refine gh 13 ?_;refine cc rfl (fun Ld=>?_) (fun Ld=>?_)
  ·refine gc 7 ?_;refine aj results97 rfl (L1:=[sc F.p _ 106]++R) ae ?_;refine⟨_,⟨?_,rfl⟩,rfl⟩;unfold aa.refused;(repeat' split)<;>first|rfl|(exfalso;omega)
  refine gc 5 ?_;refine cv 45 rfl (fun Jt=>?_) (fun Jt=>?_)
  ·refine gy 2 ?_;refine bV ?_;refine y (cP rfl underlying9) rfl ?_;refine gy 5 ?_;refine cc rfl (fun Lg=>?_) (fun Lg=>?_)
   ·refine gc 7 ?_;refine aj results97 rfl (L1:=[sc F.p _ 106]++R) ae ?_;refine⟨_,⟨?_,rfl⟩,rfl⟩;unfold aa.refused;(repeat' split)<;>first|rfl|(exfalso;omega)
   refine gc 8 ?_;refine aj results97 rfl (L1:=[sc F.p _ 106]++R) ae ?_;refine⟨_,⟨?_,rfl⟩,rfl⟩;unfold aa.refused;(repeat' split)<;>first|rfl|(exfalso;omega)
  refine gy 17 ?_;refine aj results97 rfl (L1:=[sc F.p _ 106]++R) ae ?_;refine⟨_,⟨?_,rfl⟩,rfl⟩;unfold aa.refused;(repeat' split)<;>first|rfl|(exfalso;omega)
 refine gh 23 ?_;refine cv 45 rfl (fun Hm=>?_) (fun Hm=>?_)
 ·refine gy 2 ?_;refine bV ?_;refine y (cP rfl underlying9) rfl ?_;refine gy 5 ?_;refine cc rfl (fun YU=>?_) (fun YU=>?_)
  ·refine gc 7 ?_;exfalso;omega
  refine gc 8 ?_;exfalso;omega
 refine gy 17 ?_;refine aj results97 rfl (L1:=[sc F.p _ 106]++R) ae ?_;refine⟨_,⟨?_,rfl⟩,rfl⟩;unfold aa.refused;(repeat' split)<;>first|rfl|(exfalso;omega)
end W
end Go.Proofs