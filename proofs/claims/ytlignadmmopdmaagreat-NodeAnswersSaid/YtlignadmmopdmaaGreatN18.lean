/- A part of the proof. -/
import Derived.Test.YtlignadmmopdmaaGreatGC
import Derived.Test.YtlignadmmopdmaaGreatGB
import Derived.Test.YtlignadmmopdmaaGreatNodL
import Derived.Test.YtlignadmmopdmaaGreatUn
import Derived.Test.YtlignadmmopdmaaGreatN14
set_option linter.unusedVariables false
set_option linter.unusedSimpArgs false
set_option linter.constructorNameAsVariable false
namespace Go.Sl
variable {P : Program} {ops : Array Oper} {n : Nat} {rest : List Oper} {Q : Exit → Act → World → Prop} {l : List (Nat × Value)} {L M M' : List Seg} {A B : Seg}
end Go.Sl
namespace Go.Sl
section
variable {P : Program} {n : Nat} {l : List (Nat × Value)} {L : List Seg} {d : Option Tmp} {ty : TypeId} {pos : String} {af : Array Edge} {g : Option (Nat × Bool)}
theorem reps_len(m:Nat)(zs:List Value):(reps m zs).length=m*zs.length:=by
 unfold reps
 induction m with
 |zero=>simp
 |succ m ih=>rw[List.replicate_succ,List.flatten_cons,List.length_append,ih,Nat.succ_mul];omega
/-- 'clear(xs)' of a part of a block. -/
theorem ac_clearAt [Env]{T e:TypeId}{x:Operand}{b o m c:Nat}{zv:Value}{zs vs vs':List Value}{E:TypeId}{L':List Seg}(hx:ev l x=some (.slice (some ⟨b,o,none⟩) m c))(hu:P.underlying T=some (.slice e))
  (hzv: ∀w,(zeroValue e).run P w= .ok zv w) (hzs:zv.cells=zs.toArray) (hz:0<zs.length) (h1: ∀u∈zs,u.oneCell'=true) (r:Rp L (sc b vs E) (sc b vs' E) L') (hv:o+m*zs.length≤vs.length)
  (he:vs.take o++reps m zs++vs.drop (o+m*zs.length)=vs'):
  Ac P n ⟨d,.call {callee:= .builtin .clear,args:= #[x],argTypes:= #[T]},ty,pos,af,g⟩ l L (fun v L''=>v= .tuple #[]∧L''=L'):=by
 intro a w hf hh;have hb:=hh.cells r.pk.choose_spec.1.in
 have h2: ∀u∈reps m zs,u.oneCell'=true:=by
  intro u hu;unfold reps at hu;obtain⟨q,hq,hu⟩:=List.mem_flatten.1 hu;rw[List.eq_of_mem_replicate hq]at hu;exact h1 u hu
 have hst:=run_storeCells_at P b o E (reps m zs) 0 vs.toArray w hb (by simp only[List.size_toArray,reps_len];omega) h2
 have e1:List.take (o+0) vs.toArray.toList++reps m zs++List.drop (o+0+(reps m zs).length) vs.toArray.toList=vs':=by
  rw[reps_len];exact he
 rw[e1]at hst;refine⟨.tuple #[],_,L',.inl ?_,⟨rfl,rfl⟩,hh.setRow r⟩;cases m with
 |zero=>
  have hv0:vs'=vs:=by rw[←he];simp[reps]
  subst hv0;simp[execOp,resolve,invoke,builtin,hf.ev hx,Builtin.clear_,run_underlying hu];rw[setRow_self w b _ _ _ hb]
 |succ m=>
  have hz2:=zeroCells_reps zs (m+1) hz;simp[execOp,resolve,invoke,builtin,hf.ev hx,Builtin.clear_,run_underlying hu,hzv,hzs,hz2,hst]
end
end Go.Sl
namespace Go.Sl
open NodM
inductive DelR{σ:Type}(b:σ→WaitM→Bool)(nx:σ→WaitM→σ→Prop)(z0:σ):List WaitM→List WaitM→σ→Prop
 |nil:DelR b nx z0 [] [] z0
 |del {l ks:List WaitM} {w:WaitM} {z1 z2:σ}:DelR b nx z0 l ks z1→b z1 w=true→nx z1 w z2→DelR b nx z0 (l++[w]) ks z2
 |keep {l ks:List WaitM} {w:WaitM} {z1 z2:σ}:DelR b nx z0 l ks z1→b z1 w=false→nx z1 w z2→DelR b nx z0 (l++[w]) (ks++[w]) z2
theorem delW_snoc(p:NodM→WaitM→Bool)(f:NodM→WaitM→NodM)(l:List WaitM)(n:NodM)(w:WaitM):
  delW p f (l++[w]) n=if p (delW p f l n).2 w=true then((delW p f l n).1,f (delW p f l n).2 w)else((delW p f l n).1++[w],(delW p f l n).2):=by
 induction l generalizing n with
 |nil=>by_cases h:p n w=true<;>simp[NodM.delW,h]
 |cons x l ih=>
  simp only[List.cons_append,delW];split
  ·exact ih _
  ·rw[ih];split<;>rfl
/-- What is deleted is what the plain node deletes. -/
theorem DelR.delW{σ:Type}{b:σ→WaitM→Bool}{nx:σ→WaitM→σ→Prop}{z0 z:σ}{l ks:List WaitM}(h:DelR b nx z0 l ks z)(m:σ→NodM){p:NodM→WaitM→Bool}{f:NodM→WaitM→NodM}
  (hb: ∀z w,b z w=p (m z) w) (hn: ∀z w z',nx z w z'→m z'=if p (m z) w=true then f (m z) w else m z):delW p f l (m z0)=(ks,m z):=by
 induction h with
 |nil=>rfl
 |del _ h2 h3 ih=>
  rw[delW_snoc,ih,hn _ _ _ h3];rw[hb]at h2;simp only[if_pos h2]
 |keep _ h2 h3 ih=>
  rw[delW_snoc,ih,hn _ _ _ h3];rw[hb]at h2;simp only[h2,if_neg (show¬false=true by simp)]
theorem split_set{ws:List WaitM}{i j:Nat}{w:WaitM}(hij:i<j)(hj:j<ws.length)(hw:ws[j]? =some w):
  (ws.set i w).take (i+1)=ws.take i++[w]∧(ws.set i w).drop (j+1)=ws.drop (j+1):=by
 constructor
 ·rw[List.take_succ_eq_append_getElem (by simp;omega),List.getElem_set_self];rw[List.take_set_of_le (Nat.le_refl _)]
 ·rw[List.drop_set_of_lt (by omega)]
theorem waits_put{l:List WaitM}{i:Nat}{w:WaitM}{sp:List Value}(h:i<l.length):(waitsV l++sp).take (i*7)++w.cells++(waitsV l++sp).drop (i*7+7)=waitsV (l.set i w)++sp:=by
 have hl:=waitsV_len l;rw[List.take_append_of_le_length (by omega),List.drop_append_of_le_length (by omega),←List.append_assoc];congr 1;have:=flV_put (f:=WaitM.cells) wait7 w h;rw[show(i+1)*7=i*7+7 by omega]at this;exact this
def wait0:List Value:=[.int .i64 0,.int .i64 0,.int .i64 0,.int .i64 0,.int .i64 0,.bool false,.int .i64 0]
theorem waits_clr{l:List WaitM}{i m:Nat}{sp:List Value}(hi:i≤l.length)(hm:m=l.length-i):
  (waitsV l++sp).take (i*7)++reps m wait0++(waitsV l++sp).drop (i*7+m*7)=waitsV (l.take i)++(reps m wait0++sp):=by
 have hl:=waitsV_len l;rw[List.take_append_of_le_length (by omega),show i*7+m*7=(waitsV l).length by omega,List.drop_left,waitsV_eq,flV_take wait7,List.append_assoc];rfl
theorem clr_ok{l:List WaitM}{i b c:Nat}{sp:List Value}(h:svOk (some (b,c,sp)) l.length 7 (waitsV l))(hi:i≤l.length):
  svOk (some (b,c,reps (l.length-i) wait0++sp)) (l.take i).length 7 (waitsV (l.take i)):=by
 obtain⟨h1,h2,h3,h4⟩:=h;have hl:=waitsV_len l;have ht:=waitsV_len (l.take i);have hk:(l.take i).length=i:=by rw[List.length_take];omega
 refine⟨by omega,h2,ht,?_⟩;rw[List.length_append]at h4 ⊢;rw[List.length_append,reps_len,show wait0.length=7 from rfl,ht,hk];omega
theorem drop_same{ws wc:List WaitM}{j:Nat}(h:wc.drop j=ws.drop j):wc[j]? =ws[j]? ∧wc.drop (j+1)=ws.drop (j+1):=by
 constructor
 ·have h1:(wc.drop j)[0]? =(ws.drop j)[0]? :=by rw[h]
  simpa using h1
 ·rw[←List.drop_drop,←List.drop_drop,h]
end Go.Sl
namespace Go.Proofs
open _root_.Go.Proofs.Tryz
open Go Go.Sl
namespace W
set_option maxHeartbeats 2000000
/-- What a closure is to do. -/
def DelC [Env]{σ:Type}(g:FuncId)(cs:Array Value)(P:σ→Seg)(J:Nat→σ→Prop)(b:σ→WaitM→Bool)(nx:σ→WaitM→σ→Prop)(ws:List WaitM):Prop:=
 ∀(R:List Seg) (k:Nat) (z:σ) (w:WaitM),J k z→k<ws.length→w∈ws→Con Tryz.prog g ([waV w]++cs.toList) [P z] R (fun u L'=> ∃z',u= .bool (b z w)∧nx z w z'∧J (k+1) z'∧L'=[P z'])
theorem nIndexS [Env]{σ:Type}{R:List Seg}{v:Value}{ws:List WaitM}{g:FuncId}{cs:Array Value}{P:σ→Seg}{J:Nat→σ→Prop}{b:σ→WaitM→Bool}{nx:σ→WaitM→σ→Prop}{z0:σ}(hv:RdV R v ws.length (waitsV ws))(hl:ws.length<1000000)
   (hcall: ∀(args:Array Value) (w:World),(callFunc g args).run Tryz.prog w= .ok (.enter g args) w) (hc:DelC g cs P J b nx ws) (h0:J 0 z0):
   Con Tryz.prog 149 [v,.func (.func g) #[] cs] [P z0] R (fun u L'=> ∃z',L'=[P z']∧
     ((u=i64 (-1)∧DelR b nx z0 ws ws z'∧J ws.length z')∨(∃i:Nat,i<ws.length∧u=i64 i∧DelR b nx z0 (ws.take (i+1)) (ws.take i) z'∧J (i+1) z'))):=by
 refine con_enter func149 ntmps149 rfl rfl ?_;refine gc 4 ?_;refine cseqT ?_;intro K2 hK2;refine gc 2 ?_;refine y (ev_lenV rfl underlying101 (RdV.lenVal (by assumption))) rfl ?_;refine gy 3 ?_
 have hJ1: ∀x:Nat × σ,((x.1≤ws.length∧DelR b nx z0 (ws.take x.1) (ws.take x.1) x.2∧J x.1 x.2)∧(x.1=ws.length))→Sk 19 K2 ([(8,i64 x.1),(7,i64 ws.length),(0,v),(1,.func (.func g) #[] cs)]) ([P x.2]++R):=by
  rintro⟨k,z⟩ ⟨hI1,hX1⟩;refine hK2 _ _ ?_;obtain⟨hk,hD,hJ⟩:=hI1;dsimp only at hk hD hJ ⊢;dsimp only at hX1;rw[hX1,List.take_length]at hD;rw[hX1]at hJ;refine gc 5 ?_;refine kretv results149 rfl (L1:=[P z]++R) zge ?_;exact⟨_,⟨z,rfl,.inl ⟨rfl,hD,hJ⟩⟩,rfl⟩
 clear hK2;refine gc 1 ?_;refine cloopT (A:=Nat × σ) (fun x=>[(8,i64 x.1),(7,i64 ws.length),(0,v),(1,.func (.func g) #[] cs)]) (fun x=>[P x.2]++R) (fun x=>x.1≤ws.length∧DelR b nx z0 (ws.take x.1) (ws.take x.1) x.2∧J x.1 x.2) (fun x=>ws.length-x.1) ((0,z0)) ?_ zsub zge ?_
 · exact⟨Nat.zero_le _,.nil,h0⟩
 rintro⟨k,z⟩ hI1 KL1 hL1;have hI1o:=hI1;obtain⟨hk,hD,hJ⟩:=hI1;dsimp only at hk hD hJ ⊢;refine gc 5 ?_;refine cc rfl (fun h7=>?_) (fun h7=>?_)
 ·obtain⟨x,hx⟩: ∃t,ws[k]? =some t:=⟨_,List.getElem?_eq_getElem (by omega)⟩;refine gc 13 ?_;refine y (ev_ixV hv rfl rfl underlying101 sizeOf177 (by omega) (by omega)) rfl ?_;refine y (ev_loadNV (us:=x.cells) (k*7) hv zge rfl isAgg177 sizeOf177 (by simp) (flV_get wait7 hx) rfl) rfl ?_;refine ycallF rfl (hc _ k z x hJ (by omega) (List.mem_of_getElem? hx)) rfl hcall ztk rfl ?_;rintro v L' ⟨z2,rfl,hnx,hJ2,rfl⟩;refine gy 2 ?_;refine cc rfl (fun h16=>?_) (fun h16=>?_)
  ·have hD2:DelR b nx z0 (ws.take (k+1)) (ws.take k) z2:=by rw[take_snoc hx];exact hD.del h16 hnx
   refine gc 11 ?_;refine kretv results149 rfl (L1:=[P z2]++R) zge ?_;exact⟨_,⟨z2,rfl,.inr ⟨k,by omega,rfl,hD2,hJ2⟩⟩,rfl⟩
  have hD2:DelR b nx z0 (ws.take (k+1)) (ws.take (k+1)) z2:=by rw[take_snoc hx];exact hD.keep h16 hnx
  refine gc 5 ?_;rw[show IntKind.i64.wrap ((k:Int)+1)=((k+1:Nat):Int)by rw[wr (by omega) (by omega)];rfl];refine gy 3 ?_;exact hL1 ((k+1,z2)) (⟨by omega,hD2,hJ2⟩) (by dsimp only;omega) _ _ zsub zge
 refine gc 5 ?_;exact ksub zsub zge (hJ1 ⟨k,z⟩ ⟨hI1o,by dsimp only;omega⟩)
/-- What is left of the waits. -/
def KDel{σ:Type}(P:σ→Seg)(J:Nat→σ→Prop)(b:σ→WaitM→Bool)(nx:σ→WaitM→σ→Prop)(z0:σ)(ws:List WaitM)(u:Value)(L':List Seg):Prop:=
 ∃z' ks s',u=svVal s' ks.length∧svOk s' ks.length 7 (waitsV ks)∧DelR b nx z0 ws ks z'∧J ws.length z'∧L'=[svSeg s' 177 (waitsV ks),P z']
theorem nDelete [Env]{σ:Type}{R:List Seg}{s:Sv}{ws:List WaitM}{g:FuncId}{cs:Array Value}{P:σ→Seg}{J:Nat→σ→Prop}{b:σ→WaitM→Bool}{nx:σ→WaitM→σ→Prop}{z0:σ}(hs:svOk s ws.length 7 (waitsV ws))(hl:ws.length<1000000)
   (hcall: ∀(args:Array Value) (w:World),(callFunc g args).run Tryz.prog w= .ok (.enter g args) w) (hc:DelC g cs P J b nx ws) (h0:J 0 z0):
   Con Tryz.prog 171 [svVal s ws.length,.func (.func g) #[] cs] [svSeg s 177 (waitsV ws),P z0] R (KDel P J b nx z0 ws):=by
 refine con_enter func171 ntmps171 rfl rfl ?_;refine gc 7 ?_;refine ycall (nIndexS (P:=P) (z0:=z0) ?hv4 hl hcall hc h0) rfl call149 ztk rfl ?_
 case hv4=>exact rdV_sv zin hs
 rintro v L' ⟨z1,rfl,hcs⟩;refine gy 6 ?_;rcases hcs with⟨rfl,hD,hJn⟩|⟨i0,hi0,rfl,hD,hJ0⟩
 ·refine gy 1 ?_
  skip
  refine gy 10 ?_;refine kretv results171 rfl (L1:=[svSeg s 177 (waitsV ws),P z1]++R) zge ?_;exact⟨_,⟨z1,ws,s,rfl,hs,hD,hJn,rfl⟩,rfl⟩
 refine gy 1 ?_;rw[show decide (((i0:Nat):Int)= -1)=false from decide_eq_false (by omega)];refine gy 5 ?_;refine cseqT ?_;intro K6 hK6;refine gc 1 ?_;obtain⟨bw,cw,spw,rfl,hcw⟩:=sv_some hs (by omega);have hrd:RdV [svSeg (some (bw,cw,spw)) 177 (waitsV ws)] (svVal (some (bw,cw,spw)) ws.length) ws.length (waitsV ws):=rdV_sv .z hs;refine gy 2 ?_;rw[show IntKind.i64.wrap ((i0:Int)+1)=((i0+1:Nat):Int)by rw[wr (by omega) (by omega)];rfl];refine gy 3 ?_
 have hJ1: ∀x:Nat × Nat × σ × List WaitM,((x.2.2.2.length=ws.length∧x.2.1≤ws.length∧x.1<x.2.1∧x.2.2.2.drop x.2.1=ws.drop x.2.1∧DelR b nx z0 (ws.take x.2.1) (x.2.2.2.take x.1) x.2.2.1∧J x.2.1 x.2.2.1)∧(x.2.1=ws.length))→Sk 42 K6 ([(6,i64 x.2.1),(5,i64 x.1),(0,svVal (some (bw,cw,spw)) ws.length),(1,.func (.func g) #[] cs)]) ([sc bw (waitsV x.2.2.2++spw) 177,P x.2.2.1]++R):=by
  rintro⟨i,j,z,wc⟩ ⟨hI1,hX1⟩;refine hK6 _ _ ?_;obtain⟨hwl,hj,hij,hdr,hDz,hJz⟩:=hI1;dsimp only at hwl hj hij hdr hDz hJz ⊢;have hsc:svOk (some (bw,cw,spw)) wc.length 7 (waitsV wc):=svOk_like hs hwl (by rw[waitsV_len,waitsV_len,hwl]);have hrc:RdV [sc bw (waitsV wc++spw) 177] (svVal (some (bw,cw,spw)) ws.length) ws.length (waitsV wc):=by rw[←hwl];exact rdV_sv (s:=some (bw,cw,spw)) .z hsc
  dsimp only at hX1;rw[hX1,List.take_length]at hDz;rw[hX1]at hJz;refine gc 3 ?_;refine y (ev_slLV hrd rfl rfl underlying101 sizeOf177 (by omega) (by omega)) rfl ?_;have hic: ¬cw=i:=by omega
  rw[show vSl (svVal (some (bw,cw,spw)) ws.length) (i:Int).toNat ws.length 7= .slice (some ⟨bw,i*7,none⟩) (ws.length-i) (cw-i)by show sliced (some ⟨bw,0,none⟩) i ws.length cw 7=_;simp[sliced,hic,add_lit]];refine yst (ac_clearAt (zs:=wait0) (vs':=waitsV (wc.take i)++(reps (wc.length-i) wait0++spw)) rfl underlying101 zeroValue177 rfl (by decide) (by simp[wait0,Value.oneCell']) zrp (by rw[List.length_append,waitsV_len];show i*7+(ws.length-i)*7≤_;omega) (by rw[hwl];exact waits_clr (m:=ws.length-i) (by omega) (by omega))) ?_;refine gy 5 ?_;refine y (ev_slHV hrd (svCap hs) rfl rfl underlying101 sizeOf177 (by omega) (by omega)) rfl ?_;refine gy 4 ?_;refine kretv results171 rfl (L1:=[sc bw _ 177,P z]++R) zge ?_;exact⟨_,⟨z,wc.take i,some (bw,cw,reps (wc.length-i) wait0++spw),by rw[show(wc.take i).length=i by rw[List.length_take];omega];show sliced (some ⟨bw,0,none⟩) 0 i cw 7= .slice (some ⟨bw,0,none⟩) i cw;simp[sliced,add_lit],clr_ok hsc (by omega),hDz,hJz,rfl⟩,rfl⟩
 clear hK6;refine gc 1 ?_;refine cloopT (A:=Nat × Nat × σ × List WaitM) (fun x=>[(6,i64 x.2.1),(5,i64 x.1),(0,svVal (some (bw,cw,spw)) ws.length),(1,.func (.func g) #[] cs)]) (fun x=>[sc bw (waitsV x.2.2.2++spw) 177,P x.2.2.1]++R) (fun x=>x.2.2.2.length=ws.length∧x.2.1≤ws.length∧x.1<x.2.1∧x.2.2.2.drop x.2.1=ws.drop x.2.1∧DelR b nx z0 (ws.take x.2.1) (x.2.2.2.take x.1) x.2.2.1∧J x.2.1 x.2.2.1) (fun x=>ws.length-x.2.1) ((i0,i0+1,z1,ws)) ?_ zsub zge ?_
 · exact⟨rfl,by dsimp only;omega,Nat.lt_succ_self _,rfl,hD,hJ0⟩
 rintro⟨i,j,z,wc⟩ hI1 KL1 hL1;have hI1o:=hI1;obtain⟨hwl,hj,hij,hdr,hDz,hJz⟩:=hI1;dsimp only at hwl hj hij hdr hDz hJz ⊢;have hsc:svOk (some (bw,cw,spw)) wc.length 7 (waitsV wc):=svOk_like hs hwl (by rw[waitsV_len,waitsV_len,hwl]);have hrc:RdV [sc bw (waitsV wc++spw) 177] (svVal (some (bw,cw,spw)) ws.length) ws.length (waitsV wc):=by rw[←hwl];exact rdV_sv (s:=some (bw,cw,spw)) .z hsc
 refine gc 4 ?_;refine y (ev_len rfl underlying101) rfl ?_;refine gy 3 ?_;refine cc rfl (fun h26=>?_) (fun h26=>?_)
 ·refine gc 5 ?_;obtain⟨w,hw⟩: ∃w,ws[j]? =some w:=⟨_,List.getElem?_eq_getElem (by omega)⟩;obtain⟨hd1,hd2⟩:=drop_same hdr;have hwc:=hd1.trans hw;refine gy 2 ?_;refine y (ev_ixV hrc rfl rfl underlying101 sizeOf177 (by omega) (by omega)) rfl ?_;refine y (ev_loadNV (us:=w.cells) (j*7) hrc zge rfl isAgg177 sizeOf177 (by simp) (flV_get wait7 hwc) rfl) rfl ?_;refine ya (ac_alloc zeroValue177 rfl) rfl ?_;rintro v L' ⟨b7,rfl,rfl⟩;refine yst (ac_storeN (vs':=w.cells) rfl rfl (wait_one w) sizeOf177 zrp rfl (by decide) rfl) ?_;refine gy 4 ?_;refine y (ev_loadAll rfl isAgg177 sizeOf177 zin (by rfl)) rfl ?_;refine ycallF rfl (hc _ j z w hJz (by omega) (List.mem_of_getElem? hw)) rfl hcall ztk rfl ?_;rintro v L' ⟨z2,rfl,hnx,hJ2,rfl⟩;refine gy 3 ?_;refine cc rfl (fun h37=>?_) (fun h37=>?_)
  ·have hD2:DelR b nx z0 (ws.take (j+1)) ((wc.set i w).take (i+1)) z2:=by rw[take_snoc hw,(split_set hij (by omega) hwc).1];exact hDz.keep (by simpa using h37) hnx
   have hd3:(wc.set i w).drop (j+1)=ws.drop (j+1):=by rw[(split_set hij (by omega) hwc).2,hd2]
   refine gc 3 ?_;refine y (ev_loadAll rfl isAgg177 sizeOf177 zin (by rfl)) rfl ?_;refine y (ev_ixV hrd rfl rfl underlying101 sizeOf177 (by omega) (by omega)) rfl ?_;rw[show sO (svVal (some (bw,cw,spw)) ws.length)+(i:Int).toNat*7=i*7 by show 0+i*7=i*7;omega];refine yst (ac_storeN (us:=w.cells) (vs':=waitsV (wc.set i w)++spw) rfl rfl (wait_one w) sizeOf177 zrp rfl (by rw[List.length_append,waitsV_len];omega) (waits_put (by omega))) ?_;refine gy 5 ?_;rw[show IntKind.i64.wrap ((i:Int)+1)=((i+1:Nat):Int)by rw[wr (by omega) (by omega)];rfl];refine gy 7 ?_;rw[show IntKind.i64.wrap ((j:Int)+1)=((j+1:Nat):Int)by rw[wr (by omega) (by omega)];rfl];refine gy 3 ?_;exact hL1 (i+1,j+1,z2,wc.set i w) ⟨by simp[hwl],by dsimp only;omega,by dsimp only;omega,hd3,hD2,hJ2⟩ (by dsimp only;omega) _ _ zsub zge
  have hD2:DelR b nx z0 (ws.take (j+1)) (wc.take i) z2:=by rw[take_snoc hw];exact hDz.del (by simpa using h37) hnx
  refine gc 6 ?_;rw[show IntKind.i64.wrap ((j:Int)+1)=((j+1:Nat):Int)by rw[wr (by omega) (by omega)];rfl];refine gy 3 ?_;exact hL1 (i,j+1,z2,wc) ⟨hwl,by dsimp only;omega,by dsimp only;omega,hd2,hD2,hJ2⟩ (by dsimp only;omega) _ _ zsub zge
 refine gc 5 ?_;exact ksub zsub zge (hJ1 ⟨i,j,z,wc⟩ ⟨hI1o,by dsimp only;omega⟩)
def ndV(F:NF)(V:NV)(n:NodM):List Value:=[i64 n.id,i64 n.serial,i64 n.lease,i64 n.patience,i64 n.blocks,ptr F.pf,ptr F.pl,ptr F.A.p,i64 n.left,.bool n.down,.bool n.lost,i64 n.epoch,i64 n.mask,i64 n.clock,i64 n.born,i64 n.change,i64 n.done.a,i64 n.done.b,i64 n.done.c,i64 n.done.d,i64 n.noted.a,i64 n.noted.b,i64 n.noted.c,i64 n.noted.d,i64 n.loads,svVal V.out n.out.length,i64 n.role,i64 n.want,i64 n.resync,i64 n.quiet,svVal V.sw n.waits.length,ptr V.ps]
theorem done_set{F:NF}{V:NV}{n:NodM}{c:Int}(h:c=0∨c=1∨c=2∨c=3)(v:Int):(ndV F V n).set (16+c.toNat) (i64 v)=ndV F V {n with done:=n.done.set c v}:=by
 rcases h with rfl|rfl|rfl|rfl<;>rfl
theorem done_get{F:NF}{V:NV}{n:NodM}{c:Int}(h:c=0∨c=1∨c=2∨c=3):(ndV F V n)[16+c.toNat]? =some (i64 (n.done.get c)):=by
 rcases h with rfl|rfl|rfl|rfl<;>rfl
def setlN(n:NodM)(w:WaitM):NodM:=if NodM.settleP n w=true then n.settleF w else n
/-- A wait that is settled, or not. -/
def KSet1(F:NF)(V:NV)(n n':NodM)(p1:Nat)(b:Bool)(u:Value)(L':List Seg):Prop:=
 ∃s,u= .bool b∧svOk s n'.out.length 3 (letsV n'.out)∧L'=[sc p1 [ptr F.p] 27,ndC F {V with out:=s} n',svSeg s 42 (letsV n'.out),sndC V.ps V.si n.s]
theorem nSettle1 [Env]{R:List Seg}{F:NF}{V:NV}{n:NodM}{w:WaitM}{p1:Nat}(hc:0≤w.cl∧w.cl≤3)(ho:outOk V n)(hl:n.out.length≤1000000):
   Con Tryz.prog 178 [waV w,ptr p1] [sc p1 [ptr F.p] 27,ndC F V n,outS V n,sndC V.ps V.si n.s] R (KSet1 F V n (setlN n w) p1 (NodM.settleP n w)):=by
 have hc4:w.cl=0∨w.cl=1∨w.cl=2∨w.cl=3:=by omega
 have hmx:(if w.n>n.done.get w.cl then w.n else n.done.get w.cl)=max (n.done.get w.cl) w.n:=by split<;>omega
 refine con_enter func178 ntmps178 rfl rfl ?_;refine gc 1 ?_;refine ya (ac_box (vs:=w.cells) rfl rfl) rfl ?_;rintro v L' ⟨b2,rfl,rfl⟩;refine gy 9 ?_;refine ysp 7 rfl (fun h7=>?_) (fun h7=>?_)
 ·refine gy 9 ?_;have hsp:NodM.settleP n w=false:=by unfold NodM.settleP;simp_all
  have hsn:setlN n w=n:=by unfold setlN;rw[if_neg (by rw[hsp];simp)]
  refine gy 5 ?_;refine kretv results178 rfl (L1:=[sc p1 _ _,ndC F V n,outS V n,sndC V.ps V.si n.s]++R) zge ?_;rw[hsp,hsn];exact⟨_,⟨V.out,rfl,ho,rfl⟩,rfl⟩
 refine gy 1 ?_;refine ygo ?_;refine y (ev_loadAll rfl isAgg177 sizeOf177 zin (by rfl)) rfl ?_;refine ygo ?_;refine yci (nCommitted (V:=V) (n:=n) (w:=w)) call179 ?_;refine gy 4 ?_;refine cc rfl (fun h15=>?_) (fun h15=>?_)
 ·refine gc 1 ?_;have hsp:NodM.settleP n w=false:=by unfold NodM.settleP;simp_all
  have hsn:setlN n w=n:=by unfold setlN;rw[if_neg (by rw[hsp];simp)]
  refine gy 5 ?_;refine kretv results178 rfl (L1:=[sc p1 _ _,ndC F V n,outS V n,sndC V.ps V.si n.s]++R) zge ?_;rw[hsp,hsn];exact⟨_,⟨V.out,rfl,ho,rfl⟩,rfl⟩
 refine gc 3 ?_;refine cdraw 16 (od [] 16 0) (_) Tryz.mixed (by kernel_rfl) .refl ?_;have hsp:NodM.settleP n w=true:=by unfold NodM.settleP;simp_all
 have hsn:setlN n w=n.settleF w:=by unfold setlN;rw[if_pos hsp]
 rw[show ndC F V n=sc F.p (ndV F V n) 106 from rfl];refine gh 8 ?_;refine hr rfl (ev_ixAddrA rfl rfl underlying32 sizeOf2 (by omega) (by omega)) rfl ?_;refine hr rfl (ev_load (v:=i64 (n.done.get w.cl)) rfl isAgg2 zin (by show(ndV F V n)[0+16+w.cl.toNat*1]? =_;rw[Nat.zero_add,Nat.mul_one];exact done_get hc4)) rfl ?_;refine gh 2 ?_;refine hr rfl (ev_max rfl rfl) rfl ?_;rw[hmx];refine gh 2 ?_;refine hr rfl (ev_ixAddrA rfl rfl underlying32 sizeOf2 (by omega) (by omega)) rfl ?_;refine gh 1 ?_;refine yst (ac_store (vs':=ndV F V {n with done:=n.done.set w.cl (max (n.done.get w.cl) w.n)}) rfl rfl rfl sizeOf2 zrp (by rcases hc4 with h|h|h|h<;>rw[h]<;>rfl) (by show(ndV F V n).set (0+16+w.cl.toNat*1) _=_;rw[Nat.zero_add,Nat.mul_one];exact done_set hc4 _)) ?_;refine gy 4 ?_;refine y (ev_loadAll rfl isAgg177 sizeOf177 zin (by rfl)) rfl ?_;refine ycall (nAnswer (V:=V) (n:={n with done:=n.done.set w.cl (max (n.done.get w.cl) w.n)}) (w:=w) (data:=[]) ?oc36 ?ook36 ?ol36) rfl call101 ztk rfl ?_
 case oc36=>exact hc
 case ook36=>exact ho
 case ol36=>exact hl
 rintro v L' ⟨o31,rfl,oko31,rfl⟩;refine gy 7 ?_;refine kretv results178 rfl (L1:=[sc p1 _ _,ndC F _ _,svSeg o31 _ _,sndC V.ps V.si n.s]++R) zge ?_;rw[hsp,hsn];exact⟨_,⟨o31,rfl,oko31,rfl⟩,rfl⟩
theorem nSettle2 [Env]{R:List Seg}{w:WaitM}{S:Seg}:Con Tryz.prog 181 [waV w] [S] R (Is (.bool (decide (w.op=2))) [S]):=by
 refine con_enter func181 ntmps181 rfl rfl ?_;refine gc 1 ?_;refine ya (ac_box (vs:=w.cells) rfl rfl) rfl ?_;rintro v L' ⟨b1,rfl,rfl⟩;refine gy 11 ?_;refine kretv results181 rfl (L1:=[S]++R) zge ?_;exact⟨_,⟨by rfl,rfl⟩,by rfl⟩
/-- What a closure is to do, with what it holds in parts. -/
def DelCs [Env]{σ:Type}(g:FuncId)(cs:Array Value)(Ps:σ→List Seg)(J:Nat→σ→Prop)(b:σ→WaitM→Bool)(nx:σ→WaitM→σ→Prop)(ws:List WaitM):Prop:=
 ∀(R:List Seg) (k:Nat) (z:σ) (w:WaitM),J k z→k<ws.length→w∈ws→Con Tryz.prog g ([waV w]++cs.toList) (Ps z) R (fun u L'=> ∃z',u= .bool (b z w)∧nx z w z'∧J (k+1) z'∧L'=Ps z')
theorem nDeletes [Env]{σ:Type}{R:List Seg}{s:Sv}{ws:List WaitM}{g:FuncId}{cs:Array Value}{Ps:σ→List Seg}{J:Nat→σ→Prop}{b:σ→WaitM→Bool}{nx:σ→WaitM→σ→Prop}{z0:σ}(hs:svOk s ws.length 7 (waitsV ws))(hl:ws.length<1000000)
   (hcall: ∀(args:Array Value) (w:World),(callFunc g args).run Tryz.prog w= .ok (.enter g args) w) (hc:DelCs g cs Ps J b nx ws) (h0:J 0 z0):
   Con Tryz.prog 171 [svVal s ws.length,.func (.func g) #[] cs] (svSeg s 177 (waitsV ws)::Ps z0) R
     (fun u L'=> ∃z' ks s',u=svVal s' ks.length∧svOk s' ks.length 7 (waitsV ks)∧DelR b nx z0 ws ks z'∧J ws.length z'∧L'=svSeg s' 177 (waitsV ks)::Ps z'):=
 (nDelete (R:=R) (P:=fun z=>(Ps z).flatten) hs hl hcall (fun R k z w h1 h2 h3=>(hc R k z w h1 h2 h3).via (flat_one (Ps z) R).symm fun v L' ⟨z',h4,h5,h6,h7⟩=>⟨_,⟨z',h4,h5,h6,rfl⟩,h7▸flat_one (Ps z') R⟩) h0).via (by simp)
   fun v L' ⟨z',ks,s',h1,h2,h3,h5,h4⟩=>⟨_,⟨z',ks,s',h1,h2,h3,h5,rfl⟩,by rw[h4];simp⟩
/-- The same node, with other letters and numbers done. -/
def sdl(n:NodM)(l:List LetM)(t:T4):NodM:={n with out:=l,done:=t}
abbrev SetZ:=Sv × List LetM × T4
def setM(n:NodM)(z:SetZ):NodM:=sdl n z.2.1 z.2.2
abbrev setP(F:NF)(V:NV)(n:NodM)(p1:Nat)(z:SetZ):List Seg:=[sc p1 [ptr F.p] 27,ndC F {V with out:=z.1} (setM n z),svSeg z.1 42 (letsV z.2.1),sndC V.ps V.si n.s]
theorem setlN_sdl(n:NodM)(z:SetZ)(w:WaitM)(s:Sv):setM n (s,(setlN (setM n z) w).out,(setlN (setM n z) w).done)=setlN (setM n z) w:=by
 unfold setlN;split<;>rfl
theorem setlN_len(n:NodM)(w:WaitM):(setlN n w).out.length≤n.out.length+1:=by
 unfold setlN;split
 · show(n.out++[_]).length≤_;simp
 omega
theorem set_dels [Env]{F:NF}{V:NV}{n:NodM}{p1:Nat}(hw: ∀w∈n.waits,0≤w.cl∧w.cl≤3)(hl:n.waits.length≤16):
   DelCs 178 #[ptr p1] (setP F V n p1) (fun k z=>svOk z.1 z.2.1.length 3 (letsV z.2.1)∧z.2.1.length≤990000+k) (fun z w=>NodM.settleP (setM n z) w) (fun z w z'=>setM n z'=setlN (setM n z) w) n.waits:=by
 intro R k z w ⟨h1,h2⟩ h3 h4;refine(nSettle1 (V:={V with out:=z.1}) (n:=setM n z) (p1:=p1) (hw w h4) h1 (by show z.2.1.length≤1000000;omega)).mono ?_;rintro u L' ⟨s,rfl,h5,rfl⟩;have e:=setlN_sdl n z w s;refine⟨(s,(setlN (setM n z) w).out,(setlN (setM n z) w).done),rfl,e,⟨h5,?_⟩,?_⟩
 · have:=setlN_len (setM n z) w;have:(setM n z).out.length=z.2.1.length:=rfl;show(setlN (setM n z) w).out.length≤_;omega
 unfold setP;rw[e];rfl
theorem settle1_eq{n:NodM}{z0 z1:SetZ}{ks:List WaitM}(h0:setM n z0=n)(h:DelR (fun z w=>NodM.settleP (setM n z) w) (fun z w z'=>setM n z'=setlN (setM n z) w) z0 n.waits ks z1):n.settle1={setM n z1 with waits:=ks}:=by
 have e:=h.delW (setM n) (p:=NodM.settleP) (f:=NodM.settleF) (fun _ _=>rfl) (fun z w z' hx=>hx);rw[h0]at e;unfold NodM.settle1;rw[e]
end W
end Go.Proofs