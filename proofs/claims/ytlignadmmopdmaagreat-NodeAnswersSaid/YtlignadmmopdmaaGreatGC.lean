/- A part of the proof. -/
import Derived.Test.YtlignadmmopdmaaGreatGB
import Derived.Lib.SlKeysI
import Derived.Shelf.SlIterI.Nil
import Derived.WalkArith
import Derived.Test.YtlignadmmopdmaaGreatGA
import Derived.Recover
import Derived.WideLaws
import Derived.KernelRfl
set_option linter.unusedVariables false
set_option linter.unusedSimpArgs false
set_option linter.constructorNameAsVariable false
namespace Go.Sl
open Go.Maps
def intsV(l:List Int):List Value:=l.map (Value.int .i64)
end Go.Sl
namespace Go.Sl
/-- Where a slice's elements begin. -/
def sB:Value→Nat
 | .slice (some a) _ _=>a.block
 |_=>0
def sO:Value→Nat
 | .slice (some a) _ _=>a.off
 |_=>0
/-- 'v' is a slice of m elements that reads as these cells, in every world in which R lies. -/
def RdV [Env](R:List Seg)(v:Value)(m:Nat)(vs:List Value):Prop:=
 (v= .slice none 0 0∧m=0∧vs=[])∨ ∃a c,v= .slice (some a) m c∧(m≠0→a.spot=none)∧ ∀w,Has w R→ ∀j (h:j<vs.length),w.cell? ⟨a.block,a.off+j,none⟩=some vs[j]
theorem RdV.mono [Env]{R R':List Seg}{v:Value}{m:Nat}{vs:List Value}(h:RdV R v m vs)(hg:Ge R' R):RdV R' v m vs:=by
 rcases h with h|⟨a,c,h1,h3,h2⟩
 · exact .inl h
 · exact .inr ⟨a,c,h1,h3,fun w hh=>h2 w (hg.has hh)⟩
theorem RdV.lenVal [Env]{R:List Seg}{v:Value}{m:Nat}{vs:List Value}(h:RdV R v m vs): ∃b c,v= .slice b m c:=by
 rcases h with⟨rfl,rfl,rfl⟩|⟨a,c,h1,_⟩
 · exact⟨none,0,rfl⟩
 · exact⟨_,c,h1⟩
theorem rdV_in [Env]{L:List Seg}{b o m c k:Nat}{vs us:List Value}{T:TypeId}{fr:Nat × Nat}(hi:In L (so b (.cells vs.toArray T fr)))(hk:us.length=k)(hv:(vs.drop o).take k=us):
  RdV L (.slice (some ⟨b,o,none⟩) m c) m us:=by
 subst hk;refine .inr ⟨_,c,rfl,fun _=>rfl,fun w hh j hj=>?_⟩;refine cell_at hh hi ?_;have h2:((vs.drop o).take us.length)[j]? =us[j]? :=by rw[hv]
 rw[List.getElem?_take,if_pos hj,List.getElem?_drop]at h2;show vs[o+j]? =some us[j];rw[h2];simp[hj]
theorem rdV_sv [Env]{L:List Seg}{s:Sv}{e:TypeId}{m k:Nat}{xs:List Value}(hi:In L (svSeg s e xs))(hok:svOk s m k xs):RdV L (svVal s m) m xs:=by
 cases s with
 |none=>
  obtain⟨h1,h2⟩:=hok;subst h1;subst h2;exact .inl ⟨rfl,rfl,rfl⟩
 |some p=>exact rdV_in hi rfl (by simp)
theorem RdV.bytes [Env]{R:List Seg}{v:Value}{bs:Bytes}(h:RdV R v bs.length (bytesV bs)):RdB R v bs:=by
 rcases h with⟨h1,h2,h3⟩|⟨a,c,h1,h3,h2⟩
 ·exact .inl ⟨h1,List.eq_nil_of_length_eq_zero h2⟩
 ·refine .inr ⟨_,c,h1,fun w hh j hj=>?_⟩;have:=h2 w hh j (by simpa using hj);have hs:=h3 (by omega);rw[show a.add j=⟨a.block,a.off+j,none⟩by cases a;simp at hs;subst hs;exact add_lit _ _ _,this];simp[bytesV]
theorem rdV_nil [Env]{R:List Seg}:RdV R (.slice none 0 0) 0 []:= .inl ⟨rfl,rfl,rfl⟩
section
variable {P : Program} {n : Nat} {l : List (Nat × Value)} {L : List Seg} {d : Option Tmp} {ty : TypeId} {pos : String} {af : Array Edge} {g : Option (Nat × Bool)}
theorem ev_lenV [Env]{x:Operand}{t:TypeId}{T e:TypeId}{v:Value}{m:Nat}(hx:ev l x=some v)(hu:P.underlying T=some (.slice e))(hb: ∃b c,v= .slice b m c):
  Ev P n ⟨d,.call {callee:= .builtin .len,args:= #[x],argTypes:= #[T]},t,pos,af,g⟩ l L (.int .i64 m):=by
 obtain⟨b,c,rfl⟩:=hb;exact ev_len hx hu
theorem ev_lenSv [Env]{x:Operand}{t:TypeId}{T e:TypeId}{s:Sv}{m k:Nat}{xs:List Value}(hx:ev l x=some (svVal s m))(hu:P.underlying T=some (.slice e))(hok:svOk s m k xs):
  Ev P n ⟨d,.call {callee:= .builtin .len,args:= #[x],argTypes:= #[T]},t,pos,af,g⟩ l L (.int .i64 m):=by
 cases s with
 |none=>obtain⟨rfl,rfl⟩:=hok;exact ev_len hx hu
 |some p=>exact ev_len hx hu
theorem ev_toStrB [Env]{R:List Seg}{t u e:TypeId}{x:Operand}{v:Value}{bs:Bytes}(hb:RdB R v bs)(hg:Ge L R)(hx:ev l x=some v)
  (ht:P.underlying t=some (.slice e)) (hu:P.underlying u=some .string) (he:P.underlying e=some (.int .u8)):Ev P n ⟨d,.convert t u x,ty,pos,af,g⟩ l L (.string ⟨bs.toArray⟩):=by
 rcases hb with⟨h1,rfl⟩|⟨b,c,h1,h2⟩
 ·subst h1;exact ev_toStr0 hx ht hu he
 ·subst h1;intro a w hf hh;have:=run_convert_bytes_back (P:=P) w t u e b c bs ht he hu (fun j hj=>h2 w (hg.has hh) j hj);simp[execOp,hf.ev hx,this]
theorem ev_eqlL [Env]{t t':TypeId}{x y:Operand}{p q:Bytes}(hx:ev l x=some (.string ⟨p.toArray⟩))(hy:ev l y=some (.string ⟨q.toArray⟩)):
  Ev P n ⟨d,.binOp .eql t x y t',ty,pos,af,g⟩ l L (.bool (decide (p=q))):=by
 have h:=ev_eqlS (P:=P) (n:=n) (L:=L) (d:=d) (ty:=ty) (pos:=pos) (af:=af) (g:=g) (t:=t) (t':=t') hx hy;rw[Go.ByteArray.toList_mk,Go.ByteArray.toList_mk]at h;have e:(p==q)=decide (p=q):=by by_cases h:p=q<;>simp[h]
 rw[←e];exact h
theorem ac_bsliceR [Env]{t e:TypeId}{m s:Nat}{parts:List (Nat × Operand)}{ps:List (Nat × Value)}{zv:Value}{z vs:List Value}(hp:evps l parts=some ps)
  (hu:P.underlying t=some (.slice e)) (hs: ∀w,(sizeOf e).run P w= .ok s w) (hz: ∀w,(zeroValue e).run P w= .ok zv w) (hzc:zv.cells=z.toArray) (hzl:z.length=s) (hbig:Nat.ble (m*s) 16777216=true) (hpos:Nat.blt 0 (m*s)=true)
  (hok:fillOk ((List.range m).map fun i=>(i*s,s)) (reps m z).length ps) (hv:fillL ((List.range m).map fun i=>(i*s,s)) (reps m z) ps=vs):
  Ac P n ⟨d,.buildSlice t m parts.toArray,ty,pos,af,g⟩ l L (KSl e m vs L):=by
 refine ac_bslice hp hu hs hz hbig hpos ?_ hok hv;rw[hzc];have h0:0<m*s:=by simpa using hpos
 have h1:0<z.length:=by rw[hzl];exact Nat.pos_of_mul_pos_left h0
 have:=made_cells m z h1;rw[hzl]at this;exact this
theorem sv_some{s:Sv}{m k:Nat}{xs:List Value}(h:svOk s m k xs)(hm:0<m): ∃b cap sp,s=some (b,cap,sp)∧m≤cap:=by
 cases s with
 |none=>obtain⟨rfl,_⟩:=h;omega
 |some p=>exact⟨p.1,p.2.1,p.2.2,rfl,h.1⟩
theorem ev_ixV [Env]{R:List Seg}{t e:TypeId}{x y:Operand}{k:IntKind}{m s:Nat}{i:Int}{v:Value}{vs:List Value}(hv:RdV R v m vs)(hx:ev l x=some v)(hy:ev l y=some (.int k i))
  (hu:P.underlying t=some (.slice e)) (hs: ∀w,(sizeOf e).run P w= .ok s w) (h0:0≤i) (h1:i<m):
  Ev P n ⟨d,.indexAddr t x y,ty,pos,af,g⟩ l L (.pointer (some ⟨sB v,sO v+i.toNat*s,none⟩)):=by
 rcases hv with⟨_,rfl,_⟩|⟨a,c,h2,h3,_⟩
 ·omega
 ·subst h2
  have e:a=⟨a.block,a.off,none⟩:=by
   have:=h3 (by omega);cases a;simp at this;subst this;rfl
  exact ev_ixAddr (hx.trans (show some (Value.slice (some a) m c)=some (.slice (some ⟨a.block,a.off,none⟩) m c)by rw[←e])) hy hu hs h0 h1
theorem RdV.cell [Env]{R:List Seg}{m o k:Nat}{v u:Value}{vs:List Value}(hv:RdV R v m vs)(hg:Ge L R)(ho:o=sO v+k)(hk:vs[k]? =some u){w:World}(hh:Has w L):w.cell? ⟨sB v,o,none⟩=some u:=by
 subst ho;rcases hv with⟨_,_,rfl⟩|⟨a,c,rfl,_,h2⟩
 ·simp at hk
 ·obtain⟨h3,h4⟩:=List.getElem?_eq_some_iff.1 hk;show w.cell? ⟨a.block,a.off+k,none⟩=some u;rw[h2 w (hg.has hh) k h3,h4]
theorem ev_loadV [Env]{R:List Seg}{t:TypeId}{x:Operand}{m o:Nat}{v u:Value}{vs:List Value}(k:Nat)(hv:RdV R v m vs)(hg:Ge L R)(hx:ev l x=some (.pointer (some ⟨sB v,o,none⟩)))
  (ha: ∀w,(isAgg t).run P w= .ok false w) (ho:o=sO v+k) (hk:vs[k]? =some u):Ev P n ⟨d,.load t x,ty,pos,af,g⟩ l L u:=
 fun a w hf hh=>by simp[execOp,Instr.loadAt,hf.ev hx,Instr.sureAddr,loadVar,ha,hv.cell hg ho hk hh]
theorem ev_loadNV [Env]{R:List Seg}{t:TypeId}{x:Operand}{m o q:Nat}{v:Value}{vs us:List Value}(k:Nat)(hv:RdV R v m vs)(hg:Ge L R)(hx:ev l x=some (.pointer (some ⟨sB v,o,none⟩)))
  (ha: ∀w,(isAgg t).run P w= .ok true w) (hs: ∀w,(sizeOf t).run P w= .ok q w) (ho:o=sO v+k) (hk:(vs.drop k).take q=us) (hq:us.length=q):Ev P n ⟨d,.load t x,ty,pos,af,g⟩ l L (.agg us.toArray):=by
 intro a w hf hh
 have hl:(loadCells ⟨sB v,o,none⟩ us.length).run P w= .ok us.toArray w:=by
  refine run_loadCells_list w _ us (fun j u hj=>?_);rw[add_lit];refine hv.cell hg (k:=k+j) (by omega) ?_ hh;rw[←hk,List.getElem?_take]at hj;split at hj
  · rwa[List.getElem?_drop]at hj
  · cases hj
 rw[hq]at hl;simp[execOp,Instr.loadAt,hf.ev hx,Instr.sureAddr,loadVar,ha,hs,hl]
end
abbrev Keeps:=List (Int × Int)
def keepsV(ks:Keeps):List Value:=(ks.map fun x=>[Value.int .i64 x.1,Value.int .i64 x.2]).flatten
theorem bytesV_append(a b:Bytes):bytesV (a++b)=bytesV a++bytesV b:=by simp[bytesV]
theorem bytesV_take(a:Bytes)(n:Nat):bytesV (a.take n)=(bytesV a).take n:=by simp[bytesV]
theorem bytesV_drop(a:Bytes)(n:Nat):bytesV (a.drop n)=(bytesV a).drop n:=by simp[bytesV]
theorem intsV_get{l:List Int}{k:Nat}{i:Int}(h:l[k]? =some i):(intsV l)[k]? =some (.int .i64 i):=by simp[intsV,h]
end Go.Sl
namespace Go.Sl
theorem Con.via [Env]{P:Program}{f:FuncId}{args:List Value}{pre R pre' R':List Seg}{post post':Value→List Seg→Prop}(h:Con P f args pre' R' post')
  (h1:(pre++R).flatten.Perm (pre'++R').flatten) (h2: ∀v L',post' v L'→ ∃L,post v L∧(L'++R').flatten.Perm (L++R).flatten):Con P f args pre R post:=by
 intro w hh;refine(h w (hh.perm h1)).mono ?_;rintro e w' ⟨v,L',rfl,hp,hh'⟩;obtain⟨L,hq,hl⟩:=h2 v L' hp;exact⟨v,L,rfl,hq,hh'.perm hl⟩
theorem Dev.new_ok{n:Nat}(hn:n≤512):(Dev.new n).ok:=
 ⟨by simpa[Dev.new]using hn,by simp[Dev.new,zsec],by simp[Dev.new],by simp[Dev.new],by simp[Dev.new],by simp[Dev.new],by simp[Dev.new],by simp[Dev.new]⟩
theorem Dev.act_ok'{D:Dev}(h:D.ok):D.act.2.ok:=by
 unfold Dev.act;split
 ·exact⟨h.n,h.sec,h.esec,h.keys,h.uniq,h.born,h.once,h.fuse⟩
 ·split
  ·refine⟨h.n,h.sec,h.esec,h.keys,h.uniq,h.born,h.once,?_⟩;have:=h.fuse;rw[wr (by omega) (by omega)];simp only;omega
  ·exact h
theorem Dev.write_ok{D:Dev}(h:D.ok)(i:Int)(bs:Bytes):(D.write i bs).2.ok:=by
 unfold Dev.write;split
 ·exact h
 ·rename_i h0
  split
  ·exact h
  ·rename_i h1
   split
   ·exact Dev.act_ok' h
   ·have ha:=Dev.act_ok' h;have h0':D.has i=0:=by simpa using h0
    obtain⟨-,hi0,hi1⟩:=has_zero h0';have hp:(pad bs).length=144:=pad_length (by omega);generalize hE:D.act.2=E at ha;have hl:E.l=D.l:=by rw[←hE];exact act_l
    rw[←hl]at hi1;unfold eput eclk
    by_cases hh:ehas E.es i=true
    ·simp only[hh,if_true]
     have hk:(eset E.es i (pad bs)).map (·.1)=E.es.map (·.1):=by
      simp only[eset,List.map_map];apply List.map_congr_left;intro x _;simp only[Function.comp];split<;>simp_all
     have hb:(eset E.es i (pad bs)).map (·.2.2)=E.es.map (·.2.2):=by
      simp only[eset,List.map_map];apply List.map_congr_left;intro x _;simp only[Function.comp];split<;>simp_all
     refine⟨ha.n,ha.sec,?_,?_,by rw[hk];exact ha.uniq,?_,by rw[hb];exact ha.once,ha.fuse⟩
     ·intro x hx;obtain⟨y,hy,rfl⟩:=List.mem_map.1 hx;split
      · exact hp
      · exact ha.esec y hy
     ·intro x hx;obtain⟨y,hy,rfl⟩:=List.mem_map.1 hx;split
      · exact⟨hi0,hi1⟩
      · exact ha.keys y hy
     ·intro x hx;obtain⟨y,hy,rfl⟩:=List.mem_map.1 hx;have:=ha.born y hy;split<;>exact this
    ·simp only[hh,Bool.false_eq_true,if_false]
     have hn:i∉E.es.map (·.1):=by
      intro hm;obtain⟨y,hy,e⟩:=List.mem_map.1 hm;exact hh (List.any_eq_true.2 ⟨y,hy,by simpa using e⟩)
     have hnb:E.clk∉E.es.map (·.2.2):=by
      intro hm;obtain⟨y,hy,e⟩:=List.mem_map.1 hm;have:=ha.born y hy;omega
     refine⟨ha.n,ha.sec,?_,?_,?_,?_,?_,ha.fuse⟩
     ·intro x hx;rcases List.mem_append.1 hx with hx|hx
      · exact ha.esec x hx
      · simp at hx;subst hx;exact hp
     ·intro x hx;rcases List.mem_append.1 hx with hx|hx
      · exact ha.keys x hx
      · simp at hx;subst hx;exact⟨hi0,hi1⟩
     ·simp only[List.map_append,List.map_cons,List.map_nil];refine List.nodup_append.2 ⟨ha.uniq,by simp,?_⟩;intro a ha' b hb e;simp at hb;subst hb;subst e;exact hn ha'
     ·intro x hx;rcases List.mem_append.1 hx with hx|hx
      · have:=ha.born x hx;dsimp only;omega
      · simp at hx;subst hx;simp
     ·simp only[List.map_append,List.map_cons,List.map_nil];refine List.nodup_append.2 ⟨ha.once,by simp,?_⟩;intro a ha' b hb e;simp at hb;subst hb;subst e;exact hnb ha'
theorem Dev.barrier_ok{D:Dev}(h:D.ok):D.barrier.2.ok:=by
 unfold Dev.barrier;split
 ·exact h
 ·split
  ·exact Dev.act_ok' h
  ·have ha:=Dev.act_ok' h;exact⟨by simpa using ha.n,settleD_sec ha.esec ha.sec,by simp,by simp,by simp,by simp,by simp,ha.fuse⟩
theorem write_l{D:Dev}{i:Int}{bs:Bytes}:(D.write i bs).2.l=D.l:=by
 unfold Dev.write;split
 ·rfl
 ·split
  ·rfl
  ·split
   · exact act_l
   · simp
end Go.Sl
namespace Go.Sl
def pchain(pv:Value):List PanicEntry:=[{v:=pv,recovered:=false}]
def CPP [Env](post:Value→List Seg→Prop)(R:List Seg)(pv:Value)(bad:List Seg→Prop)(e:Ending)(w':World):Prop:=
 (∃v L',e= .returned v∧post v L'∧Has w' (L'++R))∨(∃L',e= .panicked (pchain pv)∧bad L'∧Has w' (L'++R))
/-- The callee answers, or panics with 'pv'. -/
def ConP [Env](P:Program)(f:FuncId)(args:List Value)(pre R:List Seg)(post:Value→List Seg→Prop)(pv:Value)(bad:List Seg→Prop):Prop:=
 ∀w,Has w (pre++R)→Calls P f args.toArray w (CPP post R pv bad)
section
variable {P : Program} {ops : Array Oper} {n : Nat} {rest : List Oper} {Q : Exit → Act → World → Prop} {l : List (Nat × Value)} {L : List Seg}
variable {d : Tmp} {dd : Option Tmp} {op : Op} {ty : TypeId} {pos : String} {af : Array Edge} {g : Option (Nat × Bool)}
theorem ycallP [Env]{f:FuncId}{xs:List Operand}{ts:Array TypeId}{args:List Value}{pre R:List Seg}{post:Value→List Seg→Prop}{pv:Value}{bad:List Seg→Prop}(hc:ConP P f args pre R post pv bad)(hx:evs l xs=some args)
  (hcall: ∀(args:Array Value) (w:World),(callFunc f args).run P w= .ok (.enter f args) w) (ht:Tk L pre R) (hd:Nat.blt d n=true)
  (kp: ∀L',bad L'→Sk n (Q (.panic (pchain pv))) l (L'++R))
  (k: ∀v L',post v L'→Sy P ops n rest Q ((d,v)::l) (L'++R)):
  Sy P ops n (⟨some d,.call {callee:= .value (.func f),args:=xs.toArray,argTypes:=ts},ty,pos,af,none⟩::rest) Q l L:=by
 intro a w hf hh;refine wp_left rfl ?_;unfold Oper.wp
 have hr:(execOp a.eval (⟨some d,.call {callee:= .value (.func f),args:=xs.toArray,argTypes:=ts},ty,pos,af,none⟩:Oper)).run P w= .ok (.enter f args.toArray) w:=by
  have:=evs_eq hf hx;simp[execOp,resolve,Act.eval,Deferred.ofValue,invoke,hcall,this]
 rw[hr,Oper.upon_enter];refine(hc w (ht.has hh)).mono ?_;rintro e w' (⟨v,L',rfl,hp,hh'⟩|⟨L',rfl,hp,hh'⟩)
 ·exact k v L' hp _ w' (hf.put hd v) hh'
 ·exact kp L' hp _ w' hf hh'
/-- A call of a function value. -/
theorem ycallF [Env]{f:FuncId}{x:Operand}{xs:List Operand}{ts:Array TypeId}{args caps:List Value}{pre R:List Seg}{post:Value→List Seg→Prop}(hv:ev l x=some (.func (.func f) #[] caps.toArray))(hc:Con P f (args++caps) pre R post)(hx:evs l xs=some args)
  (hcall: ∀(args:Array Value) (w:World),(callFunc f args).run P w= .ok (.enter f args) w) (ht:Tk L pre R) (hd:Nat.blt d n=true)
  (k: ∀v L',post v L'→Sy P ops n rest Q ((d,v)::l) (L'++R)):
  Sy P ops n (⟨some d,.call {callee:= .value x,args:=xs.toArray,argTypes:=ts},ty,pos,af,none⟩::rest) Q l L:=by
 intro a w hf hh;refine wp_left rfl ?_;unfold Oper.wp
 have hr:(execOp a.eval (⟨some d,.call {callee:= .value x,args:=xs.toArray,argTypes:=ts},ty,pos,af,none⟩:Oper)).run P w= .ok (.enter f (args++caps).toArray) w:=by
  have:=evs_eq hf hx;have e:a.eval x= .func (.func f) #[] caps.toArray:=hf.ev hv;simp[execOp,resolve,e,Deferred.ofValue,invoke,hcall,this]
 rw[hr,Oper.upon_enter];refine(hc w (ht.has hh)).mono ?_;rintro e w' ⟨v,L',rfl,hp,hh'⟩;exact k v L' hp _ w' (hf.put hd v) hh'
theorem ypanic [Env]{x:Operand}{T:TypeId}{v:Value}(hx:ev l x=some (.iface T v))(k:Sk n (Q (.panic (pchain (.iface T v)))) l L):
  Sy P ops n (⟨dd,.panic x,ty,pos,af,none⟩::rest) Q l L:=by
 intro a w hf hh;refine wp_left rfl ?_;unfold Oper.wp
 have hr:(execOp a.eval (⟨dd,.panic x,ty,pos,af,none⟩:Oper)).run P w= .halt (.panic (.iface T v)) w:=by
  simp[execOp,hf.ev hx,Instr.panic,goPanic]
 rw[hr,Oper.upon_panic];exact k _ w hf hh
theorem conP_enter [Env]{f:FuncId}{fn:Func}{c:Code}{args:List Value}{pre R:List Seg}{post:Value→List Seg→Prop}{pv:Value}{bad:List Seg→Prop}(hf:P.funcs[f]? =some fn)(hn:fn.ntmps=n)(hb:fn.body=some c)(hl:Nat.ble args.length n=true)
  (h:Sc P n c (bodyPost P fn (CPP post R pv bad)) (argL 0 args) (pre++R)):ConP P f args pre R post pv bad:=by
 intro w hh;have hle:=Nat.le_of_ble_eq_true hl;refine calls_of_wp hf hb (h _ w ?_ hh);have:=frame_enter args.toArray fn.ntmps (by simpa[hn]using hle) (argL 0 args) (fun t v ht=>by have:=(argL_look args 0 t v ht).2;simpa using this);rw[hn]at this ⊢;exact this
theorem kpan [Env]{fn:Func}{R L1:List Seg}{post:Value→List Seg→Prop}{pv:Value}{bad:List Seg→Prop}(hg:Ge L L1)(hp: ∃L',bad L'∧L1=L'++R):
  Sk n (bodyPost P fn (CPP post R pv bad) (.panic (pchain pv))) l L:=by
 obtain⟨L',h1,rfl⟩:=hp;exact fun a _ hf hh=>⟨hf.defers,.inr ⟨L',rfl,h1,hg.has hh⟩⟩
theorem kretvP [Env]{fn:Func}{R L1:List Seg}{post:Value→List Seg→Prop}{pv:Value}{bad:List Seg→Prop}{t:Tmp}{v:Value}(hr:fn.results= #[.tmp t])(hl:look l t=some v)(hg:Ge L L1)(hp: ∃L',post v L'∧L1=L'++R):
  Sk n (bodyPost P fn (CPP post R pv bad) .ret) l L:=by
 obtain⟨L',h1,rfl⟩:=hp;exact fun a _ hf hh=>⟨hf.defers,v,by rw[results_tmp hr,hf.get t v hl],.inl ⟨v,L',rfl,h1,hg.has hh⟩⟩
end
end Go.Sl
namespace Go.Sl
/-- The slice has room for its elements. -/
def CapOk(v:Value):Prop:= ∀a m c,v= .slice a m c→m≤c
def vSl(v:Value)(lo hi s:Nat):Value:=match v with
 | .slice a _ c=>sliced a lo hi c s
 |u=>u
theorem vSl_cap{v:Value}(lo:Nat){hi s:Nat}(h:CapOk v)(hh: ∃b m c,v= .slice b m c∧hi≤m):CapOk (vSl v lo hi s):=by
 obtain⟨b,m,c,rfl,hm⟩:=hh;have:=h b m c rfl;intro a m' c' e;simp only[vSl,sliced,Value.slice.injEq]at e;omega
theorem RdV.sl [Env]{R:List Seg}{v:Value}{m s lo hi:Nat}{vs:List Value}(h:RdV R v m vs)(hc:CapOk v)(hl:lo≤hi)(hm:hi≤m)(hs:vs.length=m*s):
  RdV R (vSl v lo hi s) (hi-lo) ((vs.drop (lo*s)).take ((hi-lo)*s)):=by
 rcases h with⟨rfl,rfl,rfl⟩|⟨a,c,rfl,h3,h2⟩
 ·have:hi=0:=by omega
  subst this;have:lo=0:=by omega
  subst this;exact .inl ⟨rfl,rfl,by simp⟩
 ·have hcm:=hc (some a) m c rfl;refine .inr ⟨if c=lo then a else a.add (lo*s),c-lo,?_,?_,?_⟩
  ·unfold vSl sliced
   by_cases e:c=lo<;>simp[e]
  ·intro h0;rw[if_neg (by omega)];unfold Addr.add;split
   ·exact h3 (by omega)
   ·rfl
  ·intro w hw j hj
   have hmul:(hi-lo)*s≤vs.length-lo*s:=by
    rw[hs,←Nat.sub_mul];exact Nat.mul_le_mul_right _ (by omega)
   simp only[List.length_take,List.length_drop]at hj
   by_cases e:c=lo
   ·exfalso;have:hi-lo=0:=by omega
    rw[this]at hj;simp at hj
   ·have hq:=h2 w hw (lo*s+j) (by omega);rw[if_neg e]
    have hsp:(a.add (lo*s)).block=a.block∧(a.add (lo*s)).off=a.off+lo*s:=by
     unfold Addr.add;split
     · rename_i h0;rw[h0];exact⟨rfl,rfl⟩
     · exact⟨rfl,rfl⟩
    rw[hsp.1,hsp.2,show a.off+lo*s+j=a.off+(lo*s+j)by omega,hq];simp
theorem svVal_one(s:Sv)(m:Nat):(svVal s m).oneCell'=true:=by cases s<;>rfl
theorem vSl_one{v:Value}{lo hi s m:Nat}(h: ∃b c,v= .slice b m c):(vSl v lo hi s).oneCell'=true:=by
 obtain⟨b,c,rfl⟩:=h;rfl
/-- Bytes that can be read, and sliced. -/
structure RdY [Env](R:List Seg)(v:Value)(bs:Bytes):Prop where
 rd:RdV R v bs.length (bytesV bs)
 cap:CapOk v
theorem RdY.mono [Env]{R R':List Seg}{v:Value}{bs:Bytes}(h:RdY R v bs)(hg:Ge R' R):RdY R' v bs:=⟨h.rd.mono hg,h.cap⟩
theorem RdY.sl [Env]{R:List Seg}{v:Value}{bs:Bytes}{lo hi:Nat}(h:RdY R v bs)(hl:lo≤hi)(hm:hi≤bs.length):RdY R (vSl v lo hi 1) ((bs.drop lo).take (hi-lo)):=by
 have h1:=h.rd.sl h.cap hl hm (s:=1) (by simp);obtain⟨b,c,e⟩:=h.rd.lenVal;refine⟨?_,vSl_cap lo h.cap ⟨b,_,c,e,hm⟩⟩;have e2:((bs.drop lo).take (hi-lo)).length=hi-lo:=by simp;omega
 rw[e2,bytesV_take,bytesV_drop];simpa using h1
theorem RdY.take [Env]{R:List Seg}{v:Value}{bs:Bytes}{k:Nat}(h:RdY R v bs)(hm:k≤bs.length):RdY R (vSl v 0 k 1) (bs.take k):=by
 simpa using h.sl (Nat.zero_le k) hm
theorem RdY.drop [Env]{R:List Seg}{v:Value}{bs:Bytes}{k:Nat}(h:RdY R v bs)(hm:k≤bs.length):RdY R (vSl v k bs.length 1) (bs.drop k):=by
 have:=h.sl hm (Nat.le_refl _)
 rwa[List.take_of_length_le (by simp)]at this
theorem svCap{s:Sv}{m k:Nat}{xs:List Value}(h:svOk s m k xs):CapOk (svVal s m):=by
 intro a m' c e;cases s with
 |none=>simp only[svVal,Value.slice.injEq]at e;omega
 |some p=>obtain⟨b,cap,sp⟩:=p;simp only[svVal,Value.slice.injEq]at e;have:=h.1;omega
theorem rdY_sv [Env]{L:List Seg}{s:Sv}{e:TypeId}{bs:Bytes}(hi:In L (svSeg s e (bytesV bs)))(hok:svOk s bs.length 1 (bytesV bs)):RdY L (svVal s bs.length) bs:=⟨rdV_sv hi hok,svCap hok⟩
section
variable {P : Program} {n : Nat} {l : List (Nat × Value)} {L : List Seg} {d : Option Tmp} {ty : TypeId} {pos : String} {af : Array Edge} {g : Option (Nat × Bool)}
theorem ev_slHV [Env]{R:List Seg}{t e:TypeId}{x z:Operand}{m s:Nat}{k':IntKind}{hi:Int}{v:Value}{vs:List Value}(hv:RdV R v m vs)(hc:CapOk v)(hx:ev l x=some v)(hz:ev l z=some (.int k' hi))
  (hu:P.underlying t=some (.slice e)) (hs: ∀w,(sizeOf e).run P w= .ok s w) (h1:0≤hi) (h2:hi≤m):
  Ev P n ⟨d,.slice t x none (some z) none,ty,pos,af,g⟩ l L (vSl v 0 hi.toNat s):=by
 intro a w hf _;obtain⟨b,c,rfl⟩:=hv.lenVal;have hcm:=hc b m c rfl;have he:P.elem t=e:=by simp[Program.elem,hu]
 have hu':P.underlying t=some (.slice (P.elem t)):=by rw[he];exact hu
 simp only[execOp,Option.map_some,Option.map_none,hf.ev hx,hf.ev hz,Sem.run_bind,run_sliceAt_slice w t _ _ _ _ hu',run_slice_h w t b m c hu' k' hi h1 (by omega),he,hs,Result.andThen_ok,Sem.run_pure,vSl]
theorem ev_slLV [Env]{R:List Seg}{t e:TypeId}{x z:Operand}{m s:Nat}{k':IntKind}{lo:Int}{v:Value}{vs:List Value}(hv:RdV R v m vs)(hx:ev l x=some v)(hz:ev l z=some (.int k' lo))
  (hu:P.underlying t=some (.slice e)) (hs: ∀w,(sizeOf e).run P w= .ok s w) (h1:0≤lo) (h2:lo≤m):
  Ev P n ⟨d,.slice t x (some z) none none,ty,pos,af,g⟩ l L (vSl v lo.toNat m s):=by
 intro a w hf _;obtain⟨b,c,rfl⟩:=hv.lenVal;have he:P.elem t=e:=by simp[Program.elem,hu]
 have hu':P.underlying t=some (.slice (P.elem t)):=by rw[he];exact hu
 simp only[execOp,Option.map_some,Option.map_none,hf.ev hx,hf.ev hz,Sem.run_bind,run_sliceAt_slice w t _ _ _ _ hu',run_slice_l w t b m c hu' k' lo h1 h2,he,hs,Result.andThen_ok,Sem.run_pure,vSl]
theorem ev_slLHV [Env]{R:List Seg}{t e:TypeId}{x y z:Operand}{m s:Nat}{k k':IntKind}{lo hi:Int}{v:Value}{vs:List Value}(hv:RdV R v m vs)(hc:CapOk v)(hx:ev l x=some v)(hy:ev l y=some (.int k lo))(hz:ev l z=some (.int k' hi))
  (hu:P.underlying t=some (.slice e)) (hs: ∀w,(sizeOf e).run P w= .ok s w) (h0:0≤lo) (h1:lo≤hi) (h2:hi≤m):
  Ev P n ⟨d,.slice t x (some y) (some z) none,ty,pos,af,g⟩ l L (vSl v lo.toNat hi.toNat s):=by
 intro a w hf _;obtain⟨b,c,rfl⟩:=hv.lenVal;have hcm:=hc b m c rfl;have he:P.elem t=e:=by simp[Program.elem,hu]
 have hu':P.underlying t=some (.slice (P.elem t)):=by rw[he];exact hu
 simp only[execOp,Option.map_some,Option.map_none,hf.ev hx,hf.ev hy,hf.ev hz,Sem.run_bind,run_sliceAt_slice w t _ _ _ _ hu',run_slice_lh w t b m c hu' k k' lo hi h0 h1 (by omega),he,hs,Result.andThen_ok,Sem.run_pure,vSl]
end
theorem ev_lenStr [Env]{P:Program}{n:Nat}{l:List (Nat × Value)}{L:List Seg}{d:Option Tmp}{ty:TypeId}{pos:String}{af:Array Edge}{g:Option (Nat × Bool)}{x:Operand}{T:TypeId}{s:Bytes}(hx:ev l x=some (.string ⟨s.toArray⟩))(hu:P.underlying T=some .string):
  Ev P n ⟨d,.call {callee:= .builtin .len,args:= #[x],argTypes:= #[T]},ty,pos,af,g⟩ l L (.int .i64 s.length):=by
 have e:(⟨s.toArray⟩:ByteArray).size=s.length:=by show s.toArray.size=_;simp
 rw[←e];exact ev_lenS hx hu
section
variable {P : Program} {n : Nat} {l : List (Nat × Value)} {L : List Seg} {Q : Exit → Act → World → Prop}
theorem run_loadAll [Env]{t:TypeId}{b k:Nat}{vs:List Value}{T:TypeId}(hi:In L (sc b vs T))(ha: ∀w,(isAgg t).run P w= .ok true w)(hs: ∀w,(sizeOf t).run P w= .ok k w)(hk:vs.length=k){w:World}(hh:Has w L):
  (loadVar t ⟨b,0,none⟩).run P w= .ok (.agg vs.toArray) w:=by
 have hl:(loadCells ⟨b,0,none⟩ vs.length).run P w= .ok vs.toArray w:=by
  refine run_loadCells_list w _ vs (fun j u hj=>?_);rw[add_lit];exact cell_at hh hi (by simpa using hj)
 rw[hk]at hl;simp[loadVar,ha,hs,hl]
theorem run_load1 [Env]{t:TypeId}{b:Nat}{v:Value}{T:TypeId}(hi:In L (sc b [v] T))(ha: ∀w,(isAgg t).run P w= .ok false w){w:World}(hh:Has w L):
  (loadVar t ⟨b,0,none⟩).run P w= .ok v w:=by
 have:=cell_at (o:=0) (v:=v) hh hi rfl;simp[loadVar,ha,this]
theorem kretcP [Env]{fn:Func}{R L1:List Seg}{post:Value→List Seg→Prop}{pv:Value}{bad:List Seg→Prop}{t:Tmp}{T T':TypeId}{b k:Nat}{vs:List Value}{e:Exit}(he:e= .ret∨e= .normal)(hr:fn.results= #[.cell t T])(hl:look l t=some (.pointer (some ⟨b,0,none⟩)))
  (ha: ∀w,(isAgg T).run P w= .ok true w) (hs: ∀w,(sizeOf T).run P w= .ok k w) (hi:In L (sc b vs T')) (hk:vs.length=k) (hg:Ge L L1) (hp: ∃L',post (.agg vs.toArray) L'∧L1=L'++R):
  Sk n (bodyPost P fn (CPP post R pv bad) e) l L:=by
 obtain⟨L',h1,rfl⟩:=hp;intro a w hf hh;have h2:=run_loadAll hi ha hs hk hh;have h4:=hf.get t _ hl
 have h3:(results fn a.tmps).run P w= .ok (.agg vs.toArray) w:=by
  simp only[Array.getD_eq_getD_getElem?]at h4;simp[results,hr,h4,asAddr,h2]
 rcases he with rfl|rfl
 ·exact⟨hf.defers,_,h3,.inl ⟨_,L',rfl,h1,hg.has hh⟩⟩
 ·exact⟨hf.defers,_,h3,.inl ⟨_,L',rfl,h1,hg.has hh⟩⟩
end
section
variable {P : Program} {ops : Array Oper} {md : Region.Mode} {Q : Exit → Act → World → Prop} {S : World → Prop}
theorem wpAnyM_hd'{n:Nat}{K:Act→World→Prop}(hsel:Region.noSelect ops=true)(hs:Region.sinkB md ops n=true)(hc:Region.chainB md ops n=true)(hn:n≤ops.size)
  (hQ: ∀c a d v w,Q (.panic c) (a.put d v) w→Q (.panic c) a w):
  ∀(π:List (Nat × Bool)) (listed:Array Bool) (a:Act) (w:World),HeadInv md ops n listed→hdB md ops n π listed=true→S w→wpHd P ops Q S K π a w→
  wpAnyM P md ops Q S n (fun listed' a' w'=>Region.seqB md ops (ops.size-n) n listed'=true∧K a' w') π.length listed a w
 | [],listed,a,w,_,hB,_,h=>⟨hB,h⟩
 |(i,true)::π,listed,a,w,inv,hB,hS,h=>by
  simp only[hdB,Bool.and_eq_true,decide_eq_true_eq]at hB;obtain⟨⟨⟨hr,hf⟩,hin⟩,hB'⟩:=hB;obtain⟨oi,v,hoi,hy,hK⟩:=h;have hr':i∈Region.ready md ops listed:=by simpa using hr
  exact wpAnyM_first hoi (Region.noSelect_spec hsel) hs hc hn hin (fun c a w h=>hQ c a _ _ w h) (fun listed' a' w' hL=>seqB_ready hL.1) π.length listed a w inv (Region.free_spec hoi hf) hr' hy hS
   (wpAnyM_hd' hsel hs hc hn hQ π _ _ w (inv.set hr' hin) hB' hS hK)
 |(i,false)::π,listed,a,w,inv,hB,hS,h=>by
  simp only[hdB,Bool.and_eq_true,decide_eq_true_eq]at hB;obtain⟨⟨hr,hin⟩,hB'⟩:=hB;have hr':i∈Region.ready md ops listed:=by rw[hr];simp
  refine⟨by rw[hr];simp,fun j hj=>?_⟩;rw[hr]at hj;have:j=i:=by simpa using hj
  subst this;exact⟨hin,wpOp_mono (fun a' w' h'=>⟨h'.1,wpAnyM_hd' hsel hs hc hn hQ π _ _ w' (inv.set hr' hin) hB' h'.1 h'.2⟩) h⟩
/-- What is panicked with, whatever the frame. -/
def WP(pw:List PanicEntry→World→Prop)(Q:Exit→Act→World→Prop):Exit→Act→World→Prop
 | .panic c,a,w=>a.defers=[]∧pw c w
 |e,a,w=>Q e a w
theorem wp_hdP{id:Nat}{a:Act}{w:World}{os:List Oper}{n:Nat}{π:List (Nat × Bool)}{pw:List PanicEntry→World→Prop}(hq: ∀c a w,a.defers=[]→pw c w→Q (.panic c) a w)
  (hm:P.follows .mixedOrders=true) (hB:hdOk os.toArray n π=true) (hS:S {w with drawn:=w.drawn+1})
  (h:wpHd P os.toArray (WP pw Q) S (fun a w=>wpList P os.toArray (WP pw Q) (os.drop n) a w) π a {w with drawn:=w.drawn+1}):(Code.region id os.toArray true).wp P Q a w:=by
 refine wp_mono (Q:=WP pw Q) ?_ (fun e a w h=>by cases e<;>first|exact h|exact hq _ a w h.1 h.2)
 simp only[hdOk,Bool.and_eq_true,decide_eq_true_eq]at hB;obtain⟨⟨⟨⟨⟨hsel,hn⟩,hl⟩,hs⟩,hc⟩,hB⟩:=hB
 have inv0:HeadInv .any os.toArray n (Array.replicate os.toArray.size false):=by
  refine⟨by simp,fun j oj _ h=>?_,fun t _ ht'=>?_⟩
  ·rw[getD_replicate_false]at h;cases h
  ·have:t<os.length:=by simpa using ht'
   simp[this]
 have h1:=wpAnyM_hd' (S:=S) (md:= .any) hsel hs hc hn (Q:=WP pw Q) (fun c a d v w h=>by cases d<;>exact h) π _ a _ inv0 hB hS h;refine wp_region_any hm ?_;have hsz:os.toArray.size=π.length+(os.toArray.size-n):=by omega
 rw[hsz];rw[←hsz];have h2:=wpAny_of_M (g:=os.toArray.size-n) (Q:=WP pw Q) (P:=P) (ops:=os.toArray) (md:= .any) (fun listed a w hh=>?_) π.length _ a _ h1
 ·rw[←hsz]at h2;exact h2
 ·obtain⟨h3,h4⟩:=hh;have hdl:(os.drop n).length=os.toArray.size-n:=by simp
  have:=wpAny_of_seq (P:=P) (ops:=os.toArray) (Q':=WP pw Q) (os.drop n) n listed a w (fun j=>by simp) (by rw[hdl];exact h3) h4
  rwa[hdl]at this
end
section
variable {P : Program} {ops : Array Oper} {n : Nat} {Q : Exit → Act → World → Prop} {tail : List Oper} {l : List (Nat × Value)} {L Lh : List Seg} {π : List (Nat × Bool)}
theorem cdrawP [Env]{id:Nat}{os:List Oper}(m:Nat)(π:List (Nat × Bool))(Lh:List Seg)(pw:List PanicEntry→World→Prop)(hq: ∀c a w,a.defers=[]→pw c w→Q (.panic c) a w)(hm:P.follows .mixedOrders=true)(hB:hdOk os.toArray m π=true)(hg:Ge L Lh)
  (h:Sh P os.toArray n (os.drop m) (WP pw Q) Lh π l L):Sc P n (.region id os.toArray true) Q l L:=
 fun a w hf hh=>wp_hdP hq hm hB (hg.has (hh.drawn _)) (h a _ hf (hh.drawn _))
theorem hwP [Env]{pw:List PanicEntry→World→Prop}(h:Sk n (Q .normal) l L):Sy P ops n [] (WP pw Q) l L:=fun a w hf hh=>h a w hf hh
theorem hcallP [Env]{i:Nat}{d:Tmp}{ty:TypeId}{pos:String}{af:Array Edge}{f:FuncId}{xs:List Operand}{ts:Array TypeId}{args:List Value}{pre R:List Seg}{post:Value→List Seg→Prop}{pv:Value}{bad:List Seg→Prop}{pw:List PanicEntry→World→Prop}
  (ho:ops[i]? =some ⟨some d,.call {callee:= .value (.func f),args:=xs.toArray,argTypes:=ts},ty,pos,af,none⟩) (hc:ConP P f args pre R post pv bad) (hx:evs l xs=some args)
  (hcall: ∀(args:Array Value) (w:World),(callFunc f args).run P w= .ok (.enter f args) w) (ht:Tk L pre R) (hd:Nat.blt d n=true)
  (kp: ∀L',bad L'→ ∀w,Has w (L'++R)→pw (pchain pv) w)
  (k: ∀v L',post v L'→Ge (L'++R) Lh∧Sh P ops n tail (WP pw Q) Lh π ((d,v)::l) (L'++R)):Sh P ops n tail (WP pw Q) Lh ((i,false)::π) l L:=by
 intro a w hf hh;unfold wpHd wpOp;simp only[ho];rw[if_pos (by simp[Region.wanted])];refine .inl ?_;unfold Oper.wp
 have hr:(execOp a.eval (⟨some d,.call {callee:= .value (.func f),args:=xs.toArray,argTypes:=ts},ty,pos,af,none⟩:Oper)).run P w= .ok (.enter f args.toArray) w:=by
  have:=evs_eq hf hx;simp[execOp,resolve,Act.eval,Deferred.ofValue,invoke,hcall,this]
 rw[hr,Oper.upon_enter];refine(hc w (ht.has hh)).mono ?_;rintro e w' (⟨v,L',rfl,hp,hh'⟩|⟨L',rfl,hp,hh'⟩)
 ·exact⟨(k v L' hp).1.has hh',(k v L' hp).2 _ w' (hf.put hd v) hh'⟩
 ·exact⟨hf.defers,kp L' hp _ hh'⟩
end
theorem ac_of_ev [Env]{P:Program}{n:Nat}{o:Oper}{l:List (Nat × Value)}{L:List Seg}{v:Value}(he:Ev P n o l L v):Ac P n o l L (fun u L'=>u=v∧L'=L):=
 fun a w hf hh=>⟨v,w,L,.inl (he a w hf hh),⟨rfl,rfl⟩,hh⟩
section
variable {P : Program} {n : Nat} {l : List (Nat × Value)} {L : List Seg} {Q : Exit → Act → World → Prop}
theorem kthp [Env]{K:Act→World→Prop}{c:List PanicEntry}(h:Sk n (Q (.panic c)) l L):Sk n (Exit.then K Q (.panic c)) l L:=h
theorem kbpp [Env]{i:Nat}{c:List PanicEntry}(h:Sk n (Q (.panic c)) l L):Sk n (Exit.inBlock i Q (.panic c)) l L:=h
end
end Go.Sl
namespace Go.Sl
structure FD(n:Nat)(l:List (Nat × Value))(D:List Deferred)(a:Act):Prop where
 fr:Fr n l {a with defers:=[]}
 ds:a.defers=D
def SyD [Env](D:List Deferred)(P:Program)(ops:Array Oper)(n:Nat)(rest:List Oper)(Q:Exit→Act→World→Prop)(l:List (Nat × Value))(L:List Seg):Prop:=
 ∀a w,FD n l D a→Has w L→wpList P ops Q rest a w
def ScD [Env](D:List Deferred)(P:Program)(n:Nat)(c:Code)(Q:Exit→Act→World→Prop)(l:List (Nat × Value))(L:List Seg):Prop:=
 ∀a w,FD n l D a→Has w L→c.wp P Q a w
def SkD [Env](D:List Deferred)(n:Nat)(K:Act→World→Prop)(l:List (Nat × Value))(L:List Seg):Prop:=
 ∀a w,FD n l D a→Has w L→K a w
section
variable {D : List Deferred} {P : Program} {ops : Array Oper} {n : Nat} {rest : List Oper} {Q : Exit → Act → World → Prop} {l : List (Nat × Value)} {L : List Seg}
variable {d : Tmp} {op : Op} {ty : TypeId} {pos : String} {af : Array Edge} {g : Option (Nat × Bool)}
theorem yD [Env]{v:Value}(he:Ev P n ⟨some d,op,ty,pos,af,none⟩ l L v)(hd:Nat.blt d n=true)
  (k:SyD D P ops n rest Q ((d,v)::l) L):SyD D P ops n (⟨some d,op,ty,pos,af,none⟩::rest) Q l L:=by
 intro a w hf hh;refine wp_left rfl ?_;unfold Oper.wp;have h:(execOp a.eval (⟨some d,op,ty,pos,af,none⟩:Oper)).run P w=_:=he {a with defers:=[]} w hf.fr hh;rw[h];exact k _ w ⟨hf.fr.put hd v,hf.ds⟩ hh
theorem yaD [Env]{K:Value→List Seg→Prop}(he:Ac P n ⟨some d,op,ty,pos,af,none⟩ l L K)(hd:Nat.blt d n=true)
  (k: ∀v L',K v L'→SyD D P ops n rest Q ((d,v)::l) L'):SyD D P ops n (⟨some d,op,ty,pos,af,none⟩::rest) Q l L:=by
 intro a w hf hh;refine wp_left rfl ?_;unfold Oper.wp;obtain⟨v,w',L',h,hk,hh'⟩:=he {a with defers:=[]} w hf.fr hh;have h':(execOp a.eval (⟨some d,op,ty,pos,af,none⟩:Oper)).run P w= .ok (.value v) w'∨((execOp a.eval (⟨some d,op,ty,pos,af,none⟩:Oper)).run P w= .ok .skip w'∧v=undef):=h;rcases h' with hx|⟨hx,rfl⟩
 ·rw[hx];exact k v L' hk _ w' ⟨hf.fr.put hd v,hf.ds⟩ hh'
 ·rw[hx];exact k _ L' hk _ w' ⟨hf.fr.put hd _,hf.ds⟩ hh'
theorem ya0D [Env]{K:Value→List Seg→Prop}(he:Ac P n ⟨none,op,ty,pos,af,none⟩ l L K)
  (k: ∀v L',K v L'→SyD D P ops n rest Q l L'):SyD D P ops n (⟨none,op,ty,pos,af,none⟩::rest) Q l L:=by
 intro a w hf hh;refine wp_left rfl ?_;unfold Oper.wp;obtain⟨v,w',L',h,hk,hh'⟩:=he {a with defers:=[]} w hf.fr hh;have h':(execOp a.eval (⟨none,op,ty,pos,af,none⟩:Oper)).run P w= .ok (.value v) w'∨((execOp a.eval (⟨none,op,ty,pos,af,none⟩:Oper)).run P w= .ok .skip w'∧v=undef):=h;rcases h' with hx|⟨hx,rfl⟩
 ·rw[hx];exact k v L' hk _ w' ⟨hf.fr,hf.ds⟩ hh'
 ·rw[hx];exact k _ L' hk _ w' ⟨hf.fr,hf.ds⟩ hh'
/-- A closure of no parameters is deferred. -/
theorem ydefer [Env]{x:Operand}{f:FuncId}{caps:Array Value}(hx:ev l x=some (.func (.func f) #[] caps))
  (k:SyD [{target:= .fn (.func f) caps,args:= #[]}] P ops n rest Q l L):Sy P ops n (⟨none,.defer {callee:= .value x,args:= #[],argTypes:= #[]},ty,pos,af,none⟩::rest) Q l L:=by
 intro a w hf hh;refine wp_left rfl ?_;unfold Oper.wp
 have hr:(execOp a.eval (⟨none,.defer {callee:= .value x,args:= #[],argTypes:= #[]},ty,pos,af,none⟩:Oper)).run P w= .ok (.defer {target:= .fn (.func f) caps,args:= #[]}) w:=by
  simp[execOp,resolve,hf.ev hx,Deferred.ofValue]
 rw[hr,Oper.upon_defer];refine k _ w ⟨?_,?_⟩ hh
 ·exact⟨hf.size,rfl,hf.get⟩
 ·simp[Act.put,hf.defers]
theorem ycallPD [Env]{f:FuncId}{xs:List Operand}{ts:Array TypeId}{args:List Value}{pre R:List Seg}{post:Value→List Seg→Prop}{pv:Value}{bad:List Seg→Prop}(hc:ConP P f args pre R post pv bad)(hx:evs l xs=some args)
  (hcall: ∀(args:Array Value) (w:World),(callFunc f args).run P w= .ok (.enter f args) w) (ht:Tk L pre R) (hd:Nat.blt d n=true)
  (kp: ∀L',bad L'→SkD D n (Q (.panic (pchain pv))) l (L'++R))
  (k: ∀v L',post v L'→SyD D P ops n rest Q ((d,v)::l) (L'++R)):
  SyD D P ops n (⟨some d,.call {callee:= .value (.func f),args:=xs.toArray,argTypes:=ts},ty,pos,af,none⟩::rest) Q l L:=by
 intro a w hf hh;refine wp_left rfl ?_;unfold Oper.wp
 have hr:(execOp a.eval (⟨some d,.call {callee:= .value (.func f),args:=xs.toArray,argTypes:=ts},ty,pos,af,none⟩:Oper)).run P w= .ok (.enter f args.toArray) w:=by
  have:xs.map a.eval=args:=evs_eq hf.fr hx;simp[execOp,resolve,Act.eval,Deferred.ofValue,invoke,hcall,this]
 rw[hr,Oper.upon_enter];refine(hc w (ht.has hh)).mono ?_;rintro e w' (⟨v,L',rfl,hp,hh'⟩|⟨L',rfl,hp,hh'⟩)
 ·exact k v L' hp _ w' ⟨hf.fr.put hd v,hf.ds⟩ hh'
 ·exact kp L' hp _ w' hf hh'
theorem cseqD [Env]{x z:Code}(h:ScD D P n x (Exit.then (z.wp P Q) Q) l L):ScD D P n (.seq x z) Q l L:=fun a w hf hh=>wp_seq (h a w hf hh)
theorem cseqW [Env]{x z:Code}(h:Sc P n x (Exit.then (z.wp P Q) Q) l L):Sc P n (.seq x z) Q l L:=fun a w hf hh=>wp_seq (h a w hf hh)
theorem ynilD' [Env]{z:Code}(h:ScD D P n z Q l L):SyD D P ops n [] (Exit.then (z.wp P Q) Q) l L:=fun a w hf hh=>h a w hf hh
theorem cregD [Env]{id:Nat}{os:List Oper}(h:SyD D P os.toArray n os Q l L):ScD D P n (.region id os.toArray false) Q l L:=
 fun a w hf hh=>wp_region_lit (h a w hf hh)
theorem cretD [Env](k:SkD D n (Q .ret) l L):ScD D P n .ret Q l L:=fun a w hf hh=>wp_ret (k a w hf hh)
end
section
variable {P : Program} {n : Nat} {l : List (Nat × Value)} {L : List Seg}
theorem run_results2 [Env]{fn:Func}{a:Act}{t u:Tmp}{T T1 U U1:TypeId}{b b' k:Nat}{vs:List Value}{v:Value}(hr:fn.results= #[.cell t T,.cell u U])(hf:Fr n l a)(hl:look l t=some (.pointer (some ⟨b,0,none⟩)))(hl':look l u=some (.pointer (some ⟨b',0,none⟩)))
  (ha: ∀w,(isAgg T).run P w= .ok true w) (hs: ∀w,(sizeOf T).run P w= .ok k w) (hk:vs.length=k) (ha': ∀w,(isAgg U).run P w= .ok false w) {w:World} (hi:In L (sc b vs T1)) (hi':In L (sc b' [v] U1)) (hh:Has w L):
  (results fn a.tmps).run P w= .ok (.tuple #[.agg vs.toArray,v]) w:=by
 have h2:=run_loadAll hi ha hs hk hh;have h3:=run_load1 hi' ha' hh;have h4:=hf.get t _ hl;have h5:=hf.get u _ hl';simp only[Array.getD_eq_getD_getElem?]at h4 h5;simp[results,hr,h4,h5,asAddr,h2,h3]
/-- The closure that recovers, twice: where nothing was panicked with, and where 'pv' was. -/
def Recovers [Env](P:Program)(f:FuncId)(caps:Array Value)(pv:Value)(pre post:List Seg):Prop:=
 (∀w,Has w []→CallsD P f caps .returning w fun e u' w'=>(∃v,e= .returned v)∧u'= .returning∧w'=w)∧
 ∀R w,Has w (pre++R)→CallsD P f caps (.panicking (pchain pv)) w fun e u' w'=>(∃v,e= .returned v)∧u'= .panicking [{v:=pv,recovered:=true}]∧Has w' (post++R)
theorem kretD [Env]{fn:Func}{f:FuncId}{caps:Array Value}{pv:Value}{pre post' R L1:List Seg}{post:Value→List Seg→Prop}{t u:Tmp}{T T1 U U1:TypeId}{b b' k:Nat}{vs:List Value}{v:Value}(hrec:Recovers P f caps pv pre post')
  (hcall: ∀(args:Array Value) (w:World),(callFunc f args).run P w= .ok (.enter f args) w) (hr:fn.results= #[.cell t T,.cell u U]) (hl:look l t=some (.pointer (some ⟨b,0,none⟩))) (hl':look l u=some (.pointer (some ⟨b',0,none⟩)))
  (ha: ∀w,(isAgg T).run P w= .ok true w) (hs: ∀w,(sizeOf T).run P w= .ok k w) (hk:vs.length=k) (ha': ∀w,(isAgg U).run P w= .ok false w) (hi:In L (sc b vs T1)) (hi':In L (sc b' [v] U1)) (hg:Ge L L1) (hp: ∃L',post (.tuple #[.agg vs.toArray,v]) L'∧L1=L'++R):
  SkD [{target:= .fn (.func f) caps,args:= #[]}] n (bodyPostD P fn (CP post R) .ret) l L:=by
 intro a w hf hh;obtain⟨L',h1,rfl⟩:=hp;show Leaves P fn a.tmps (CP post R) a.defers .returning w;rw[hf.ds];refine⟨by simp,_,_,f,caps,rfl,by simp[invoke,hcall],(hrec.1 w (Ge.nil.has hh)).mono ?_⟩;rintro e u' w' ⟨⟨v',rfl⟩,rfl,rfl⟩;exact⟨_,run_results2 hr hf.fr hl hl' ha hs hk ha' hi hi' hh,_,L',rfl,h1,hg.has hh⟩
theorem kpanD [Env]{fn:Func}{f:FuncId}{caps:Array Value}{pv:Value}{pre post' R R' L1:List Seg}{post:Value→List Seg→Prop}{t u:Tmp}{T T1 U U1:TypeId}{b b' k:Nat}{vs:List Value}{v:Value}(hrec:Recovers P f caps pv pre post')
  (hcall: ∀(args:Array Value) (w:World),(callFunc f args).run P w= .ok (.enter f args) w) (hr:fn.results= #[.cell t T,.cell u U]) (hl:look l t=some (.pointer (some ⟨b,0,none⟩))) (hl':look l u=some (.pointer (some ⟨b',0,none⟩)))
  (ha: ∀w,(isAgg T).run P w= .ok true w) (hs: ∀w,(sizeOf T).run P w= .ok k w) (hk:vs.length=k) (ha': ∀w,(isAgg U).run P w= .ok false w) (ht:Tk L pre R') (hi:In (post'++R') (sc b vs T1)) (hi':In (post'++R') (sc b' [v] U1)) (hg:Ge (post'++R') L1) (hp: ∃L',post (.tuple #[.agg vs.toArray,v]) L'∧L1=L'++R):
  SkD [{target:= .fn (.func f) caps,args:= #[]}] n (bodyPostD P fn (CP post R) (.panic (pchain pv))) l L:=by
 intro a w hf hh;obtain⟨L',h1,rfl⟩:=hp;show Leaves P fn a.tmps (CP post R) a.defers (.panicking (pchain pv)) w;rw[hf.ds];refine⟨by simp,_,_,f,caps,rfl,by simp[invoke,hcall],(hrec.2 R' w (ht.has hh)).mono ?_⟩;rintro e u' w' ⟨⟨v',rfl⟩,rfl,hh'⟩;exact⟨_,run_results2 hr hf.fr hl hl' ha hs hk ha' hi hi' hh',_,L',rfl,h1,hg.has hh'⟩
theorem conD_enter [Env]{f:FuncId}{fn:Func}{c:Code}{args:List Value}{pre R:List Seg}{post:Value→List Seg→Prop}(hf:P.funcs[f]? =some fn)(hn:fn.ntmps=n)(hb:fn.body=some c)(hl:Nat.ble args.length n=true)
  (h:Sc P n c (bodyPostD P fn (CP post R)) (argL 0 args) (pre++R)):Con P f args pre R post:=by
 intro w hh;have hle:=Nat.le_of_ble_eq_true hl;refine calls_of_wp_defers hf hb (h _ w ?_ hh);have:=frame_enter args.toArray fn.ntmps (by simpa[hn]using hle) (argL 0 args) (fun t v ht=>by have:=(argL_look args 0 t v ht).2;simpa using this);rw[hn]at this ⊢;exact this
theorem wy [Env]{ops:Array Oper}{rest:List Oper}{Q:Exit→Act→World→Prop}{d:Tmp}{op:Op}{ty:TypeId}{pos:String}{af:Array Edge}{v:Value}{a:Act}{w:World}(he:Ev P n ⟨some d,op,ty,pos,af,none⟩ l L v)(hd:Nat.blt d n=true)
  (hf:Fr n l a) (hh:Has w L) (k:Fr n ((d,v)::l) (a.put (some d) v)→wpList P ops Q rest (a.put (some d) v) w):wpList P ops Q (⟨some d,op,ty,pos,af,none⟩::rest) a w:=by
 refine wp_left rfl ?_;unfold Oper.wp;rw[he a w hf hh];exact k (hf.put hd v)
theorem ev_assert [Env]{x:Operand}{T xT:TypeId}{v:Value}{ds:TypeDesc}{d:Option Tmp}{ty:TypeId}{pos:String}{af:Array Edge}{g:Option (Nat × Bool)}(hx:ev l x=some (.iface T v))(hu:P.underlying T=some ds)(hni: ∀q,ds≠ .interface q):
  Ev P n ⟨d,.typeAssert x xT T false,ty,pos,af,g⟩ l L v:=by
 intro a w hf _;cases ds<;>simp_all [execOp,Instr.typeAssert,hf.ev hx,run_underlying hu]
theorem ev_eqlIn [Env]{x:Operand}{t t':TypeId}{v:Value}{d:Option Tmp}{ty:TypeId}{pos:String}{af:Array Edge}{g:Option (Nat × Bool)}{ms:Array (String × TypeId)}(hx:ev l x=some v)(hu:P.underlying t=some (.interface ms))(hv:v= .nilIface∨ ∃T u,v= .iface T u):
  Ev P n ⟨d,.binOp .eql t x (.const .nilIface) t',ty,pos,af,g⟩ l L (.bool (match v with| .nilIface=>true|_=>false)):=by
 intro a w hf _;have hm:P.underlying t=some (.interface (P.methodsAt t)):=by rw[hu];simp[Program.methodsAt,hu]
 rcases hv with rfl|⟨T,u,rfl⟩
 ·have h:=run_eql_nil_nil (P:=P) (w:=w) t hm;have e:a.eval x= .nilIface:=hf.ev hx;simp only[execOp,Sem.run_bind,e];simp[Act.eval,eqGuard_nil_constR,h]
 ·have h:=run_eql_held_nil (P:=P) (w:=w) t T u hm;have e:a.eval x= .iface T u:=hf.ev hx;simp only[execOp,Sem.run_bind,e];simp[Act.eval,eqGuard,h]
theorem kretct [Env]{fn:Func}{R L1:List Seg}{post:Value→List Seg→Prop}{t u:Tmp}{T T':TypeId}{b k:Nat}{vs:List Value}{v:Value}(hr:fn.results= #[.cell t T,.tmp u])(hl:look l t=some (.pointer (some ⟨b,0,none⟩)))(hl':look l u=some v)
  (ha: ∀w,(isAgg T).run P w= .ok true w) (hs: ∀w,(sizeOf T).run P w= .ok k w) (hi:In L (sc b vs T')) (hk:vs.length=k) (hg:Ge L L1) (hp: ∃L',post (.tuple #[.agg vs.toArray,v]) L'∧L1=L'++R):
  Sk n (bodyPost P fn (CP post R) .ret) l L:=by
 obtain⟨L',h1,rfl⟩:=hp;intro a w hf hh;have h2:=run_loadAll hi ha hs hk hh;have h4:=hf.get t _ hl;have h5:=hf.get u _ hl';simp only[Array.getD_eq_getD_getElem?]at h4 h5
 have h3:(results fn a.tmps).run P w= .ok (.tuple #[.agg vs.toArray,v]) w:=by
  simp[results,hr,h4,h5,asAddr,h2]
 exact⟨hf.defers,_,h3,_,L',rfl,h1,hg.has hh⟩
theorem recovers_enter [Env]{f:FuncId}{fn:Func}{id:Nat}{c:Code}{caps:List Value}{pv:Value}{pre post:List Seg}{o1 o2:Oper}{t u:Tmp}(hf:P.funcs[f]? =some fn)(hn:fn.ntmps=n)(hres:fn.results= #[])
  (hb:fn.body=some (.seq (.region id #[o1,o2] false) c)) (hl:Nat.ble caps.length n=true)
  (h1:o1.op= .call {callee:= .builtin .recover,args:= #[],argTypes:= #[]}∧o1.dst=some t∧o1.guard=none) (h2:o2.op= .assign (.tmp t)∧o2.dst=some u∧o2.guard=none) (ht:Nat.blt t n=true) (hu:Nat.blt u n=true)
  (hQ0: ∀(Q:Exit→Act→World→Prop) w,Has w []→(∀a',a'.defers=[]→Q .normal a' w)→ ∀a,Fr n ((u,.nilIface)::(t,.nilIface)::argL 0 caps) a→c.wp P Q a w)
  (hQ1: ∀(Q:Exit→Act→World→Prop) R,(∀a' w',a'.defers=[]→Has w' (post++R)→Q .normal a' w')→Sc P n c Q ((u,pv)::(t,pv)::argL 0 caps) (pre++R)):
  Recovers P f caps.toArray pv pre post:=by
 have hle:=Nat.le_of_ble_eq_true hl;obtain⟨p1,d1,g1⟩:=h1;obtain⟨p2,d2,g2⟩:=h2;have hfr:=frame_enter caps.toArray fn.ntmps (by simpa[hn]using hle) (argL 0 caps) (fun t v ht=>by have:=(argL_look caps 0 t v ht).2;simpa using this);rw[hn]at hfr
 have hex1: ∀(a:Act) (w:World),(execOp a.eval o1).run P w= .ok .recover w:=by
  intro a w;simp[execOp,p1,resolve,invoke,builtin]
 have hex2: ∀(a:Act) (w:World) (v:Value),Fr n ((t,v)::argL 0 caps) a→(execOp a.eval o2).run P w= .ok (.value v) w:=by
  intro a w v hfa;have:a.eval (.tmp t)=v:=hfa.ev (show ev ((t,v)::argL 0 caps) (.tmp t)=some v by simp[ev,look]);simp[execOp,p2,this]
 constructor
 ·intro w hh0;refine callsD_of_wpS hf hb fun c₀ cs hm=>?_
  rw[hn];apply wpS_seq;apply wpS_region;have hrec:recoverD (c₀::cs)=none:=by simp[recoverD,hm]
  have hr:List.range (#[o1,o2]:Array Oper).size=[0,1]:=rfl;rw[hr];have f1:=hfr.put ht .nilIface;have f2:=f1.put hu .nilIface;simp only[wpOpsS,List.getElem?_toArray,List.getElem?_cons_zero,List.getElem?_cons_succ,Region.wanted,g1,g2,hex1,hrec,d1,d2,hex2 _ _ _ f1,Oper.upon,if_true,Exit.thenS];refine wpS_of_wp (hQ0 _ w hh0 ?_ _ f2);intro a' ha';exact⟨ha',_,rfl,.tuple #[],results_none hres _ _ _,⟨_,rfl⟩,hm,rfl⟩
 ·intro R w hh;refine callsD_of_wpS hf hb fun c₀ cs hm=>?_
  rw[hn];apply wpS_seq;apply wpS_region;have hrec:recoverD (c₀::cs)=some (pv,{c₀ with mode:= .panicking [{v:=pv,recovered:=true}]}::cs):=by simp[recoverD,hm,pchain]
  have hr:List.range (#[o1,o2]:Array Oper).size=[0,1]:=rfl;rw[hr];have f1:=hfr.put ht pv;have f2:=f1.put hu pv;simp only[wpOpsS,List.getElem?_toArray,List.getElem?_cons_zero,List.getElem?_cons_succ,Region.wanted,g1,g2,hex1,hrec,d1,d2,hex2 _ _ _ f1,Oper.upon,if_true,Exit.thenS];refine wpS_of_wp (hQ1 _ R ?_ _ w f2 hh);intro a' w' ha' hh';exact⟨ha',_,rfl,.tuple #[],results_none hres _ _ _,⟨_,rfl⟩,rfl,hh'⟩
end
section
variable {P : Program} {ops : Array Oper} {n : Nat} {Q : Exit → Act → World → Prop} {tail : List Oper} {l : List (Nat × Value)} {L Lh : List Seg} {π : List (Nat × Bool)}
theorem haN [Env]{i:Nat}{op:Op}{ty:TypeId}{pos:String}{af:Array Edge}{K:Value→List Seg→Prop}(ho:ops[i]? =some ⟨none,op,ty,pos,af,none⟩)(he:Ac P n ⟨none,op,ty,pos,af,none⟩ l L K)
  (k: ∀v L',K v L'→Ge L' Lh∧Sh P ops n tail Q Lh π l L'):Sh P ops n tail Q Lh ((i,false)::π) l L:=by
 intro a w hf hh;unfold wpHd wpOp;simp only[ho];rw[if_pos (by simp[Region.wanted])];refine .inl ?_;unfold Oper.wp;obtain⟨v,w',L',hr|⟨hr,rfl⟩,hk,hh'⟩:=he a w hf hh
 ·rw[hr];exact⟨(k v L' hk).1.has hh',(k v L' hk).2 _ w' hf hh'⟩
 ·rw[hr];exact⟨(k _ L' hk).1.has hh',(k _ L' hk).2 _ w' hf hh'⟩
end
end Go.Sl
namespace Go.Sl
/-- '[]byte(s)': a new block with these bytes, and some more. -/
def KBytesY(t:Bytes)(e:TypeId)(L:List Seg)(v:Value)(L':List Seg):Prop:=
 ∃b c sp fr,v= .slice (some ⟨b,0,none⟩) t.length c∧t.length≤c∧L'=so b (.cells (bytesV t++sp).toArray e fr)::L
section
variable {P : Program} {n : Nat} {l : List (Nat × Value)} {L : List Seg} {d : Option Tmp} {ty : TypeId} {pos : String} {af : Array Edge} {g : Option (Nat × Bool)}
theorem ac_toBytesY [Env]{t u e:TypeId}{x:Operand}{bs:Bytes}(hx:ev l x=some (.string ⟨bs.toArray⟩))(ht:P.underlying t=some .string)(hu:P.underlying u=some (.slice e))(he:P.underlying e=some (.int .u8)):
  Ac P n ⟨d,.convert t u x,ty,pos,af,g⟩ l L (KBytesY bs e L):=by
 intro a w hf hh;obtain⟨s,hs⟩: ∃s:ByteArray,s=⟨bs.toArray⟩:=⟨_,rfl⟩;have hsz:s.size=bs.length:=by rw[hs];show bs.toArray.size=_;simp
 have hsl:s.data.toList=bs:=by rw[hs]
 rw[←hs]at hx;have hr:=run_bytes_of_string (P:=P) w t u e s ht hu he;have h2:=(hh.drew).alloc (.cells (bytesRow s (grownCap w s.size 0 e)) e ((bytesRow s (grownCap w s.size 0 e)).size,(bytesRow s (grownCap w s.size 0 e)).size+1))
 have hb:bytesRow s (grownCap w s.size 0 e)=(bytesV bs++List.replicate (grownCap w s.size 0 e-s.size) (Value.int .u8 0)).toArray:=by
  rw[←hsl];unfold bytesRow bytesV;rw[←Array.toList_inj];simp
 have hge:=grownCap_ge w s.size 0 e
 refine⟨.slice (some ⟨w.heap.size,0,none⟩) s.size (grownCap w s.size 0 e),w.drew.alloc (.cells (bytesRow s (grownCap w s.size 0 e)) e ((bytesRow s (grownCap w s.size 0 e)).size,(bytesRow s (grownCap w s.size 0 e)).size+1)),
  so w.drew.heap.size (.cells (bytesRow s (grownCap w s.size 0 e)) e ((bytesRow s (grownCap w s.size 0 e)).size,(bytesRow s (grownCap w s.size 0 e)).size+1))::L,.inl ?_,?_,h2⟩
 ·simp only[execOp,hf.ev hx,Sem.run_bind,hr,Result.andThen_ok,Sem.run_pure]
 ·exact⟨w.heap.size,grownCap w s.size 0 e,List.replicate (grownCap w s.size 0 e-s.size) (.int .u8 0),_,by rw[hsz],by omega,by rw[←hb];rfl⟩
theorem rdY_in [Env]{L:List Seg}{b c:Nat}{bs:Bytes}{sp:List Value}{T:TypeId}{fr:Nat × Nat}(hi:In L (so b (.cells (bytesV bs++sp).toArray T fr)))(hc:bs.length≤c):RdY L (.slice (some ⟨b,0,none⟩) bs.length c) bs:=
 ⟨rdV_in (k:=bs.length) hi (by simp) (by simp),fun a m c' e=>by simp only[Value.slice.injEq]at e;omega⟩
end
section
variable {P : Program} {ops : Array Oper} {n : Nat} {rest : List Oper} {Q : Exit → Act → World → Prop} {l : List (Nat × Value)} {L : List Seg}
variable {d : Tmp} {dd : Option Tmp} {op : Op} {ty : TypeId} {pos : String} {af : Array Edge} {g : Option (Nat × Bool)}
theorem ev_mkFuncF [Env]{f:Fn}{x:Operand}{v:Value}(hx:ev l x=some v):Ev P n ⟨dd,.makeFunc f #[x] #[],ty,pos,af,g⟩ l L (.func f #[v] #[]):=
 fun a w hf _=>by simp[execOp,Instr.makeFunc,hf.ev hx]
theorem ycallFf [Env]{f:FuncId}{x:Operand}{xs:List Operand}{ts:Array TypeId}{args first:List Value}{pre R:List Seg}{post:Value→List Seg→Prop}(hv:ev l x=some (.func (.func f) first.toArray #[]))(hc:Con P f (first++args) pre R post)(hx:evs l xs=some args)
  (hcall: ∀(args:Array Value) (w:World),(callFunc f args).run P w= .ok (.enter f args) w) (ht:Tk L pre R) (hd:Nat.blt d n=true)
  (k: ∀v L',post v L'→Sy P ops n rest Q ((d,v)::l) (L'++R)):
  Sy P ops n (⟨some d,.call {callee:= .value x,args:=xs.toArray,argTypes:=ts},ty,pos,af,none⟩::rest) Q l L:=by
 intro a w hf hh;refine wp_left rfl ?_;unfold Oper.wp
 have hr:(execOp a.eval (⟨some d,.call {callee:= .value x,args:=xs.toArray,argTypes:=ts},ty,pos,af,none⟩:Oper)).run P w= .ok (.enter f (first++args).toArray) w:=by
  have:=evs_eq hf hx;have e:a.eval x= .func (.func f) first.toArray #[]:=hf.ev hv;simp[execOp,resolve,e,Deferred.ofValue,invoke,hcall,this]
 rw[hr,Oper.upon_enter];refine(hc w (ht.has hh)).mono ?_;rintro e w' ⟨v,L',rfl,hp,hh'⟩;exact k v L' hp _ w' (hf.put hd v) hh'
end
end Go.Sl
namespace Go.Sl
section
variable {P : Program} {ops : Array Oper} {md : Region.Mode} {Q : Exit → Act → World → Prop} {S : World → Prop}
def domB(md:Region.Mode)(ops:Array Oper)(i:Nat):Nat→Nat→Bool
 |0,_=>false
 |f+1,j=>match ops[j]? with
  |none=>false
  |some oj=>oj.after.toList.any fun e=>Region.binds md e&&(Nat.beq e.on i||domB md ops i f e.on)
theorem dom_listed{n i:Nat}{listed:Array Bool}(inv:HeadInv md ops n listed): ∀(f j:Nat),domB md ops i f j=true→(∀oj,ops[j]? =some oj→ ∀e∈oj.after,Region.binds md e=true→listed.getD e.on false=true)→listed.getD i false=true
 |0,j,h,_=>by simp[domB]at h
 |f+1,j,h,hj=>by
  unfold domB at h;split at h
  ·cases h
  ·rename_i oj hoj
   obtain⟨e,he0,h2⟩:=List.any_eq_true.1 h;have he:e∈oj.after:=by simpa using he0
   simp only[Bool.and_eq_true,Bool.or_eq_true]at h2;have h3:=hj oj hoj e he h2.1;rcases h2.2 with h4|h4
   ·have:e.on=i:=by simpa using h4
    rw[←this];exact h3
   ·exact dom_listed inv f e.on h4 (fun ok hok e2 he2 hb=>inv.closed e.on ok hok h3 e2 he2 hb)
/-- All that read memory and are listed are waited for by 'j'. -/
def DomAll(md:Region.Mode)(ops:Array Oper)(mem:Nat→Bool)(listed:Array Bool)(j:Nat):Prop:= ∀i,mem i=true→listed.getD i false=true→ ∃f,domB md ops i f j=true
def wpAnyN(P:Program)(md:Region.Mode)(ops:Array Oper)(Q:Exit→Act→World→Prop)(mem:Nat→Bool)(S0:World→Prop)(n:Nat)(Lq:Array Bool→Act→World→Prop):Nat→(World→Prop)→Array Bool→Act→World→Prop
 |0,_,listed,a,w=>Lq listed a w
 |f+1,S,listed,a,w=>Region.ready md ops listed≠[]∧
  ∀i∈Region.ready md ops listed,i<n∧wpOp P ops Q i (fun a' w'=> ∃S',S' w'∧(∀w,S' w→S0 w)∧((∀w,S' w→S w)∨DomAll md ops mem listed i)∧wpAnyN P md ops Q mem S0 n Lq f S' (listed.setIfInBounds i true) a' w') a w
theorem wpAny_of_N{mem:Nat→Bool}{S0:World→Prop}{n g:Nat}{Lq:Array Bool→Act→World→Prop}(hL: ∀listed a w,Lq listed a w→wpAny P md ops Q g listed a w):
  ∀(f:Nat) (S:World→Prop) (listed:Array Bool) (a:Act) (w:World),wpAnyN P md ops Q mem S0 n Lq f S listed a w→wpAny P md ops Q (f+g) listed a w
 |0,S,listed,a,w,h=>by rw[Nat.zero_add];exact hL _ _ _ h
 |f+1,S,listed,a,w,h=>by
  rw[show f+1+g=(f+g)+1 by omega];exact⟨fun h0=>absurd h0 h.1,fun i hi=>wpOp_mono (fun a' w' ⟨S',_,_,_,h'⟩=>wpAny_of_N hL f S' _ a' w' h') (h.2 i hi).2⟩
def needs(S0:World→Prop)(mem:Nat→Bool)(i:Nat)(S:World→Prop):World→Prop:=fun w=>S0 w∧(mem i=true→S w)
theorem wpAnyN_first{mem:Nat→Bool}{S0:World→Prop}{n i:Nat}{oi:Oper}{v:Value}{Lq:Array Bool→Act→World→Prop}(hi:ops[i]? =some oi)(hsel: ∀(j:Nat) (o:Oper) cs b,ops[j]? =some o→o.op≠ .select cs b)
  (hs:n=ops.size∨Region.sinkB md ops n=true) (hc:Region.chainB md ops n=true) (hn:n≤ops.size) (hin:i<n) (hQ: ∀c a w,Q (.panic c) (a.put oi.dst v) w→Q (.panic c) a w)
  (hdone: ∀listed a w,Lq listed a w→ ∀j∈Region.ready md ops listed,n≤j):
  ∀(f:Nat) (S:World→Prop) (listed:Array Bool) (a:Act) (w:World),HeadInv md ops n listed→
   (∀j oj,ops[j]? =some oj→j≠i→listed.getD j true=false→(∀e∈oj.after,Region.binds md e=true→e.on≠i)→oi.apart ops oj=true)→
   i∈Region.ready md ops listed→YieldsIf P ops (needs S0 mem i S) oi v a→S w→(∀w,S w→S0 w)→
   wpAnyN P md ops Q mem S0 n Lq f S (listed.setIfInBounds i true) (a.put oi.dst v) w→wpAnyN P md ops Q mem S0 n Lq (f+1) S listed a w:=by
 have tw: ∀(listed:Array Bool),HeadInv md ops n listed→i∈Region.ready md ops listed→ ∀j∈Region.ready md ops listed,j<n:=by
  intro listed inv hr j hj;have hun:=(mem_ready.1 hr).1;have hjs:j<ops.size:=by obtain⟨_,oj,hoj,_⟩:=mem_ready.1 hj;exact(Array.getElem?_eq_some_iff.1 hoj).1
  rcases Nat.lt_or_ge j n with h|h
  ·exact h
  ·rcases hs with hs|hs
   ·omega
   ·exact absurd hj (tail_waits hs hc (by omega) inv _ i rfl hin hun j h)
 intro f
 induction f with
 |zero=>
  intro S listed a w inv _ hr hy hS h0 H;refine⟨fun h=>(by rw[h]at hr;cases hr),fun j hj=>?_⟩;have hjn:=tw listed inv hr j hj;refine⟨hjn,?_⟩
  by_cases hji:j=i
  ·subst hji;exact hy.wpOp hi ⟨h0 _ hS,fun _=>hS⟩ ⟨S,hS,h0,.inl (fun _ h=>h),H⟩
  ·have:=hdone _ _ _ H j (ready_mono hj hji);omega
 |succ f ih=>
  intro S listed a w inv hfree hr hy hS h0 H;have hun:=(mem_ready.1 hr).1;refine⟨fun h=>(by rw[h]at hr;cases hr),fun j hj=>?_⟩;have hjn:=tw listed inv hr j hj;refine⟨hjn,?_⟩
  by_cases hji:j=i
  ·subst hji;exact hy.wpOp hi ⟨h0 _ hS,fun _=>hS⟩ ⟨S,hS,h0,.inl (fun _ h=>h),H⟩
  ·have h1:=(H.2 j (ready_mono hj hji)).2;obtain⟨hjun,oj,hoj,hall⟩:=mem_ready.1 hj
   have hnot: ∀e∈oj.after,Region.binds md e=true→e.on≠i:=fun e he hb heq=>by
    have h1:=hall e he hb;rw[heq,getD_both hun]at h1;cases h1
   have h2:=wpOp_putIf hoj (hfree j oj hoj hji hjun hnot) (fun cs b=>hsel i oi cs b hi) (fun cs b=>hsel j oj cs b hoj) hQ hy h1
   have hfree': ∀k ok,ops[k]? =some ok→k≠i→(listed.setIfInBounds j true).getD k true=false→
     (∀e∈ok.after,Region.binds md e=true→e.on≠i)→oi.apart ops ok=true:=fun k ok hk hki hun hno=>by
    refine hfree k ok hk hki ?_ hno
    by_cases hjk:j=k
    ·subst hjk;exact hjun
    ·rw[getD_set_ne true hjk]at hun;exact hun
   refine wpOp_mono (fun a' w' h3=>?_) h2;obtain⟨hy',S',hS',hz,hd,hH⟩:=h3;have hlist: ∀k,listed.getD k false=true→(listed.setIfInBounds i true).getD k false=true:=fun k hk=>getD_set_true hk
   have hy2:YieldsIf P ops (needs S0 mem i S') oi v a':=by
    refine hy'.imp (fun⟨h5,h6⟩=>⟨h5,fun w2 hw2=>h6 w2 ⟨hw2.1,?_⟩⟩) id;intro hm;rcases hd with hd|hd
    ·exact hd _ (hw2.2 hm)
    ·exfalso
     have hil:(listed.setIfInBounds i true).getD i false=true:=by
      have hsz:i<listed.size:=by rw[inv.size];omega
      simp[hsz]
     obtain⟨fu,hf⟩:=hd i hm hil
     have h7:=dom_listed inv fu j hf (fun ok hok e he hb=>by
      have:ok=oj:=Option.some.inj (hok.symm.trans hoj);subst this;exact hall e he hb)
     rw[getD_both hun]at h7;cases h7
   refine⟨S',hS',hz,hd.imp id (fun hd k hm hk=>hd k hm (hlist k hk)),ih S' (listed.setIfInBounds j true) a' w' (inv.set hj hjn) hfree' (ready_mono hr (Ne.symm hji)) hy2 hS' hz ?_⟩;rw[Array.setIfInBounds_comm _ _ hji];exact hH
/-- Orders: a region's operations one after the other; where two actors may come, both ways. -/
inductive Pi where
 |nil
 |op (i k:Nat) (π:Pi)
 |fork (i:Nat) (π:Pi) (j:Nat) (ρ:Pi)
 |fork3 (i:Nat) (π:Pi) (j:Nat) (ρ:Pi) (k:Nat) (σ:Pi)
def Pi.len:Pi→Nat
 | .nil=>0
 | .op _ _ π=>π.len+1
 | .fork _ π _ _=>π.len+1
 | .fork3 _ π _ _ _ _=>π.len+1
def Pi.mem:Pi→List Nat
 | .nil=>[]
 | .op i 1 π=>i::π.mem
 | .op _ _ π=>π.mem
 | .fork _ π _ ρ=>π.mem++ρ.mem
 | .fork3 _ π _ ρ _ σ=>π.mem++ρ.mem++σ.mem
/-- The walk in the order that is told: readers of no memory (0), readers (1), actors (2), actors that change what is held (3). -/
def wpHn(P:Program)(ops:Array Oper)(Q:Exit→Act→World→Prop)(S0:World→Prop)(K:Act→World→Prop):(World→Prop)→Pi→Act→World→Prop
 |_,.nil,a,w=>K a w
 |S,.op i 0 π,a,w=> ∃oi v,ops[i]? =some oi∧YieldsIf P ops S0 oi v a∧wpHn P ops Q S0 K S π (a.put oi.dst v) w
 |S,.op i 1 π,a,w=> ∃oi v,ops[i]? =some oi∧YieldsIf P ops S oi v a∧wpHn P ops Q S0 K S π (a.put oi.dst v) w
 |S,.op i 2 π,a,w=>wpOp P ops Q i (fun a' w'=> ∃S',S' w'∧(∀w,S' w→S w)∧wpHn P ops Q S0 K S' π a' w') a w
 |_,.op i (_+3) π,a,w=>wpOp P ops Q i (fun a' w'=> ∃S',S' w'∧(∀w,S' w→S0 w)∧wpHn P ops Q S0 K S' π a' w') a w
 |S,.fork i π j ρ,a,w=>wpOp P ops Q i (fun a' w'=> ∃S',S' w'∧(∀w,S' w→S w)∧wpHn P ops Q S0 K S' π a' w') a w∧wpOp P ops Q j (fun a' w'=> ∃S',S' w'∧(∀w,S' w→S w)∧wpHn P ops Q S0 K S' ρ a' w') a w
 |S,.fork3 i π j ρ k σ,a,w=>wpOp P ops Q i (fun a' w'=> ∃S',S' w'∧(∀w,S' w→S w)∧wpHn P ops Q S0 K S' π a' w') a w∧wpOp P ops Q j (fun a' w'=> ∃S',S' w'∧(∀w,S' w→S w)∧wpHn P ops Q S0 K S' ρ a' w') a w∧wpOp P ops Q k (fun a' w'=> ∃S',S' w'∧(∀w,S' w→S w)∧wpHn P ops Q S0 K S' σ a' w') a w
/-- all memory readers of 'ms' that are listed are waited for by 'j' -/
def domAllB(md:Region.Mode)(ops:Array Oper)(ms:List Nat)(listed:Array Bool)(j:Nat):Bool:=ms.all fun i=> !listed.getD i false||domB md ops i ops.size j
def hnB(md:Region.Mode)(ops:Array Oper)(n:Nat)(ms:List Nat):Pi→Array Bool→Bool
 | .nil,listed=>Region.seqB md ops (ops.size-n) n listed
 | .op i 0 π,listed=>(Region.ready md ops listed).contains i&&Region.free md ops listed i&&decide (i<n)&& !ms.contains i&&hnB md ops n ms π (listed.setIfInBounds i true)
 | .op i 1 π,listed=>(Region.ready md ops listed).contains i&&Region.free md ops listed i&&decide (i<n)&&ms.contains i&&hnB md ops n ms π (listed.setIfInBounds i true)
 | .op i 2 π,listed=>decide (Region.ready md ops listed=[i])&&decide (i<n)&&hnB md ops n ms π (listed.setIfInBounds i true)
 | .op i (_+3) π,listed=>decide (Region.ready md ops listed=[i])&&decide (i<n)&&domAllB md ops ms listed i&&hnB md ops n ms π (listed.setIfInBounds i true)
 | .fork i π j ρ,listed=>decide (Region.ready md ops listed=[i,j])&&decide (i<n)&&decide (j<n)&&Nat.beq π.len ρ.len&&hnB md ops n ms π (listed.setIfInBounds i true)&&hnB md ops n ms ρ (listed.setIfInBounds j true)
 | .fork3 i π j ρ k σ,listed=>decide (Region.ready md ops listed=[i,j,k])&&decide (i<n)&&decide (j<n)&&decide (k<n)&&Nat.beq π.len ρ.len&&Nat.beq π.len σ.len&&hnB md ops n ms π (listed.setIfInBounds i true)&&hnB md ops n ms ρ (listed.setIfInBounds j true)&&hnB md ops n ms σ (listed.setIfInBounds k true)
def hnOk(ops:Array Oper)(n:Nat)(π:Pi):Bool:=
 Region.noSelect ops&&decide (n≤ops.size)&&decide (π.len=n)&&(Nat.beq n ops.size||Region.sinkB .any ops n)&&Region.chainB .any ops n&&hnB .any ops n π.mem π (Array.replicate ops.size false)
theorem wpAnyN_hd{S0:World→Prop}{n:Nat}{ms:List Nat}{K:Act→World→Prop}(hsel:Region.noSelect ops=true)(hs:n=ops.size∨Region.sinkB md ops n=true)(hc:Region.chainB md ops n=true)(hn:n≤ops.size)
  (hQ: ∀c a w,¬Q (.panic c) a w):
  ∀(π:Pi) (S:World→Prop) (listed:Array Bool) (a:Act) (w:World),HeadInv md ops n listed→hnB md ops n ms π listed=true→S w→(∀w,S w→S0 w)→wpHn P ops Q S0 K S π a w→
  wpAnyN P md ops Q (fun i=>ms.contains i) S0 n (fun listed' a' w'=>Region.seqB md ops (ops.size-n) n listed'=true∧K a' w') π.len S listed a w
 | .nil,S,listed,a,w,_,hB,_,_,h=>⟨hB,h⟩
 | .op i 0 π,S,listed,a,w,inv,hB,hS,h0,h=>by
  simp only[hnB,Bool.and_eq_true,decide_eq_true_eq]at hB;obtain⟨⟨⟨⟨hr,hf⟩,hin⟩,hm⟩,hB'⟩:=hB;obtain⟨oi,v,hoi,hy,hK⟩:=h;have hr':i∈Region.ready md ops listed:=by simpa using hr
  exact wpAnyN_first hoi (Region.noSelect_spec hsel) hs hc hn hin (fun c a w h=>absurd h (hQ c _ w)) (fun listed' a' w' hL=>seqB_ready hL.1) π.len S listed a w inv (Region.free_spec hoi hf) hr' (hy.imp (fun⟨h1,h2⟩=>⟨h1,fun w hw=>h2 w hw.1⟩) id) hS h0
   (wpAnyN_hd hsel hs hc hn hQ π S _ _ w (inv.set hr' hin) hB' hS h0 hK)
 | .op i 1 π,S,listed,a,w,inv,hB,hS,h0,h=>by
  simp only[hnB,Bool.and_eq_true,decide_eq_true_eq]at hB;obtain⟨⟨⟨⟨hr,hf⟩,hin⟩,hm⟩,hB'⟩:=hB;obtain⟨oi,v,hoi,hy,hK⟩:=h;have hr':i∈Region.ready md ops listed:=by simpa using hr
  exact wpAnyN_first hoi (Region.noSelect_spec hsel) hs hc hn hin (fun c a w h=>absurd h (hQ c _ w)) (fun listed' a' w' hL=>seqB_ready hL.1) π.len S listed a w inv (Region.free_spec hoi hf) hr' (hy.imp (fun⟨h1,h2⟩=>⟨h1,fun w hw=>h2 w (hw.2 hm)⟩) id) hS h0
   (wpAnyN_hd hsel hs hc hn hQ π S _ _ w (inv.set hr' hin) hB' hS h0 hK)
 | .op i 2 π,S,listed,a,w,inv,hB,hS,h0,h=>by
  simp only[hnB,Bool.and_eq_true,decide_eq_true_eq]at hB;obtain⟨⟨hr,hin⟩,hB'⟩:=hB;have hr':i∈Region.ready md ops listed:=by rw[hr];simp
  refine⟨by rw[hr];simp,fun j hj=>?_⟩;rw[hr]at hj;have:j=i:=by simpa using hj
  subst this;exact⟨hin,wpOp_mono (fun a' w' ⟨S',h1,h3,h2⟩=>⟨S',h1,fun w h=>h0 w (h3 w h),.inl h3,wpAnyN_hd hsel hs hc hn hQ π S' _ _ w' (inv.set hr' hin) hB' h1 (fun w h=>h0 w (h3 w h)) h2⟩) h⟩
 | .op i (_+3) π,S,listed,a,w,inv,hB,hS,h0,h=>by
  simp only[hnB,Bool.and_eq_true,decide_eq_true_eq]at hB;obtain⟨⟨⟨hr,hin⟩,hd⟩,hB'⟩:=hB;have hr':i∈Region.ready md ops listed:=by rw[hr];simp
  have hd':DomAll md ops (fun i=>ms.contains i) listed i:=by
   intro k hk hl;have:=List.all_eq_true.1 hd k (by simpa using hk);rw[hl]at this;exact⟨ops.size,by simpa using this⟩
  refine⟨by rw[hr];simp,fun j hj=>?_⟩;rw[hr]at hj;have:j=i:=by simpa using hj
  subst this;refine⟨hin,wpOp_mono (fun a' w' h'=>?_) h⟩;obtain⟨S',h1,h3,h2⟩:=h';exact⟨S',h1,h3,.inr hd',wpAnyN_hd hsel hs hc hn hQ π S' _ _ w' (inv.set hr' hin) hB' h1 h3 h2⟩
 | .fork i π j ρ,S,listed,a,w,inv,hB,hS,h0,h=>by
  simp only[hnB,Bool.and_eq_true,decide_eq_true_eq]at hB;obtain⟨⟨⟨⟨⟨hr,hi⟩,hj⟩,hl⟩,hB1⟩,hB2⟩:=hB;have hl':π.len=ρ.len:=Nat.eq_of_beq_eq_true hl;refine⟨by rw[hr];simp,fun k hk=>?_⟩;have hk':=hk;rw[hr]at hk;rcases(by simpa using hk:k=i∨k=j)with rfl|rfl
  ·exact⟨hi,wpOp_mono (fun a' w' ⟨S',h1,h3,h2⟩=>⟨S',h1,fun w h=>h0 w (h3 w h),.inl h3,wpAnyN_hd hsel hs hc hn hQ π S' _ _ w' (inv.set hk' hi) hB1 h1 (fun w h=>h0 w (h3 w h)) h2⟩) h.1⟩
  ·refine⟨hj,wpOp_mono (fun a' w' ⟨S',h1,h3,h2⟩=>⟨S',h1,fun w h=>h0 w (h3 w h),.inl h3,?_⟩) h.2⟩;show wpAnyN P md ops Q _ S0 n _ π.len S' _ a' w';rw[hl'];exact wpAnyN_hd hsel hs hc hn hQ ρ S' _ _ w' (inv.set hk' hj) hB2 h1 (fun w h=>h0 w (h3 w h)) h2
 | .fork3 i π j ρ l σ,S,listed,a,w,inv,hB,hS,h0,h=>by
  simp only[hnB,Bool.and_eq_true,decide_eq_true_eq]at hB;obtain⟨⟨⟨⟨⟨⟨⟨⟨hr,hi⟩,hj⟩,hl⟩,he1⟩,he2⟩,hB1⟩,hB2⟩,hB3⟩:=hB;have e1:π.len=ρ.len:=Nat.eq_of_beq_eq_true he1;have e2:π.len=σ.len:=Nat.eq_of_beq_eq_true he2;refine⟨by rw[hr];simp,fun k hk=>?_⟩;have hk':=hk;rw[hr]at hk;rcases(by simpa using hk:k=i∨k=j∨k=l)with rfl|rfl|rfl
  ·exact⟨hi,wpOp_mono (fun a' w' ⟨S',h1,h3,h2⟩=>⟨S',h1,fun w h=>h0 w (h3 w h),.inl h3,wpAnyN_hd hsel hs hc hn hQ π S' _ _ w' (inv.set hk' hi) hB1 h1 (fun w h=>h0 w (h3 w h)) h2⟩) h.1⟩
  ·refine⟨hj,wpOp_mono (fun a' w' ⟨S',h1,h3,h2⟩=>⟨S',h1,fun w h=>h0 w (h3 w h),.inl h3,?_⟩) h.2.1⟩;show wpAnyN P md ops Q _ S0 n _ π.len S' _ a' w';rw[e1];exact wpAnyN_hd hsel hs hc hn hQ ρ S' _ _ w' (inv.set hk' hj) hB2 h1 (fun w h=>h0 w (h3 w h)) h2
  ·refine⟨hl,wpOp_mono (fun a' w' ⟨S',h1,h3,h2⟩=>⟨S',h1,fun w h=>h0 w (h3 w h),.inl h3,?_⟩) h.2.2⟩;show wpAnyN P md ops Q _ S0 n _ π.len S' _ a' w';rw[e2];exact wpAnyN_hd hsel hs hc hn hQ σ S' _ _ w' (inv.set hk' hl) hB3 h1 (fun w h=>h0 w (h3 w h)) h2
theorem wp_hn{S0:World→Prop}{id:Nat}{a:Act}{w:World}{os:List Oper}{n:Nat}{π:Pi}(hm:P.follows .mixedOrders=true)(hB:hnOk os.toArray n π=true)(hS:S {w with drawn:=w.drawn+1})(h0: ∀w,S w→S0 w)
  (h:wpHn P os.toArray (NoP Q) S0 (fun a w=>wpList P os.toArray (NoP Q) (os.drop n) a w) S π a {w with drawn:=w.drawn+1}):(Code.region id os.toArray true).wp P Q a w:=by
 refine wp_noP (Q:=Q) ?_;simp only[hnOk,Bool.and_eq_true,decide_eq_true_eq]at hB;obtain⟨⟨⟨⟨⟨hsel,hn⟩,hl⟩,hs0⟩,hc⟩,hB⟩:=hB
 have hs:n=os.toArray.size∨Region.sinkB .any os.toArray n=true:=by
  rw[Bool.or_eq_true]at hs0;exact hs0.imp (fun h=>Nat.eq_of_beq_eq_true h) (fun h=>h)
 have inv0:HeadInv .any os.toArray n (Array.replicate os.toArray.size false):=by
  refine⟨by simp,fun j oj _ h=>?_,fun t _ ht'=>?_⟩
  ·rw[getD_replicate_false]at h;cases h
  ·have:t<os.length:=by simpa using ht'
   simp[this]
 have h1:=wpAnyN_hd (md:= .any) hsel hs hc hn (Q:=NoP Q) (fun c a w h=>h) π S _ a _ inv0 hB hS h0 h;refine wp_region_any hm ?_;have hsz:os.toArray.size=π.len+(os.toArray.size-n):=by omega
 rw[hsz];rw[←hsz];have h2:=wpAny_of_N (g:=os.toArray.size-n) (Q:=NoP Q) (P:=P) (ops:=os.toArray) (md:= .any) (fun listed a w hh=>?_) π.len S _ a _ h1
 ·rw[←hsz]at h2;exact h2
 ·obtain⟨h3,h4⟩:=hh;have hdl:(os.drop n).length=os.toArray.size-n:=by simp
  have:=wpAny_of_seq (P:=P) (ops:=os.toArray) (Q':=NoP Q) (os.drop n) n listed a w (fun j=>by simp) (by rw[hdl];exact h3) h4
  rwa[hdl]at this
end
section
variable {P : Program} {ops : Array Oper} {n : Nat} {Q : Exit → Act → World → Prop} {l : List (Nat × Value)} {L Lh : List Seg} {π : Pi} {tail : List Oper}
def Sn [Env](P:Program)(ops:Array Oper)(n:Nat)(tail:List Oper)(Q:Exit→Act→World→Prop)(Lh:List Seg)(π:Pi)(l:List (Nat × Value))(L:List Seg):Prop:=
 ∀a w,Fr n l a→Has w L→wpHn P ops Q (fun w=>Has w []) (fun a w=>wpList P ops Q tail a w) (fun w=>Has w Lh) π a w
theorem Has.none [Env]{w:World}{L:List Seg}(h:Has w L):Has w []:=Ge.nil.has h
theorem cdrawN [Env]{id:Nat}{os:List Oper}(m:Nat)(π:Pi)(Lh:List Seg)(hm:P.follows .mixedOrders=true)(hB:hnOk os.toArray m π=true)(hg:Ge L Lh)
  (h:Sn P os.toArray n (os.drop m) (NoP Q) Lh π l L):Sc P n (.region id os.toArray true) Q l L:=
 fun a w hf hh=>wp_hn hm hB (hg.has (hh.drawn _)) (fun w h=>Has.none h) (h a _ hf (hh.drawn _))
theorem nnil [Env](h:Sy P ops n tail Q l L):Sn P ops n tail Q Lh .nil l L:=h
theorem nfork [Env]{i j:Nat}{ρ:Pi}(h1:Sn P ops n tail Q Lh (.op i 2 π) l L)(h2:Sn P ops n tail Q Lh (.op j 2 ρ) l L):Sn P ops n tail Q Lh (.fork i π j ρ) l L:=
 fun a w hf hh=>⟨h1 a w hf hh,h2 a w hf hh⟩
/-- A reader of memory. -/
theorem nr [Env]{i:Nat}{d:Tmp}{op:Op}{ty:TypeId}{pos:String}{af:Array Edge}{v:Value}(ho:ops[i]? =some ⟨some d,op,ty,pos,af,none⟩)(he:Ev P n ⟨some d,op,ty,pos,af,none⟩ l Lh v)(hd:Nat.blt d n=true)
  (k:Sn P ops n tail Q Lh π ((d,v)::l) L):Sn P ops n tail Q Lh (.op i 1 π) l L:=
 fun a w hf hh=>⟨_,v,ho,.inl ⟨by simp[Region.wanted],fun w' hw'=>he a w' hf hw'⟩,k _ w (hf.put hd v) hh⟩
theorem nr1 [Env]{i j t:Nat}{b:Bool}{d:Tmp}{op:Op}{ty:TypeId}{pos:String}{af:Array Edge}{v:Value}(ho:ops[i]? =some ⟨some d,op,ty,pos,af,some (j,b)⟩)(hj:guardTmp ops j=some t)(hl:look l t=some (.bool b))
  (he:Ev P n ⟨some d,op,ty,pos,af,some (j,b)⟩ l Lh v) (hd:Nat.blt d n=true)
  (k:Sn P ops n tail Q Lh π ((d,v)::l) L):Sn P ops n tail Q Lh (.op i 1 π) l L:=
 fun a w hf hh=>⟨_,v,ho,.inl ⟨by simp[Region.wanted,yielded_of hj hf hl],fun w' hw'=>he a w' hf hw'⟩,k _ w (hf.put hd v) hh⟩
/-- A reader of no memory. -/
theorem nz [Env]{i:Nat}{d:Tmp}{op:Op}{ty:TypeId}{pos:String}{af:Array Edge}{v:Value}(ho:ops[i]? =some ⟨some d,op,ty,pos,af,none⟩)(he:Ev P n ⟨some d,op,ty,pos,af,none⟩ l [] v)(hd:Nat.blt d n=true)
  (k:Sn P ops n tail Q Lh π ((d,v)::l) L):Sn P ops n tail Q Lh (.op i 0 π) l L:=
 fun a w hf hh=>⟨_,v,ho,.inl ⟨by simp[Region.wanted],fun w' hw'=>he a w' hf hw'⟩,k _ w (hf.put hd v) hh⟩
theorem nz1 [Env]{i j t:Nat}{b:Bool}{d:Tmp}{op:Op}{ty:TypeId}{pos:String}{af:Array Edge}{v:Value}(ho:ops[i]? =some ⟨some d,op,ty,pos,af,some (j,b)⟩)(hj:guardTmp ops j=some t)(hl:look l t=some (.bool b))
  (he:Ev P n ⟨some d,op,ty,pos,af,some (j,b)⟩ l [] v) (hd:Nat.blt d n=true)
  (k:Sn P ops n tail Q Lh π ((d,v)::l) L):Sn P ops n tail Q Lh (.op i 0 π) l L:=
 fun a w hf hh=>⟨_,v,ho,.inl ⟨by simp[Region.wanted,yielded_of hj hf hl],fun w' hw'=>he a w' hf hw'⟩,k _ w (hf.put hd v) hh⟩
theorem nr0 [Env]{i j t:Nat}{b c:Bool}{d:Tmp}{op:Op}{ty:TypeId}{pos:String}{af:Array Edge}(ho:ops[i]? =some ⟨some d,op,ty,pos,af,some (j,c)⟩)(hj:guardTmp ops j=some t)(hl:look l t=some (.bool b))(hb:(b==c)=false)(hd:Nat.blt d n=true)
  (k:Sn P ops n tail Q Lh π ((d,undef)::l) L):Sn P ops n tail Q Lh (.op i 1 π) l L:=
 fun a w hf hh=>⟨_,undef,ho,.inr ⟨by simp[Region.wanted,yielded_of hj hf hl];intro e;subst e;simp at hb,rfl⟩,k _ w (hf.put hd undef) hh⟩
theorem nsplit [Env](t:Nat){b:Bool}(hl:look l t=some (.bool b))(h1:b=true→Sn P ops n tail Q Lh π ((t,.bool true)::l) L)(h0:b=false→Sn P ops n tail Q Lh π ((t,.bool false)::l) L):
  Sn P ops n tail Q Lh π l L:=by
 intro a w hf hh
 have same: ∀c:Bool,b=c→Fr n ((t,.bool c)::l) a:=by
  rintro c rfl;refine⟨hf.size,hf.defers,fun u v hu=>?_⟩
  by_cases e:Nat.beq t u=true
  ·have:t=u:=by simpa using e
   subst this;simp only[look,e,cond_true]at hu;exact hf.get t v (hl.trans hu)
  ·simp only[look,e,cond_false]at hu;exact hf.get u v hu
 cases b
 ·exact h0 rfl a w (same false rfl) hh
 ·exact h1 rfl a w (same true rfl) hh
/-- Actors. -/
theorem na [Env]{i:Nat}{d:Tmp}{op:Op}{ty:TypeId}{pos:String}{af:Array Edge}{K:Value→List Seg→Prop}(ho:ops[i]? =some ⟨some d,op,ty,pos,af,none⟩)(he:Ac P n ⟨some d,op,ty,pos,af,none⟩ l L K)(hd:Nat.blt d n=true)
  (k: ∀v L',K v L'→Ge L' Lh∧Sn P ops n tail Q Lh π ((d,v)::l) L'):Sn P ops n tail Q Lh (.op i 2 π) l L:=by
 intro a w hf hh;unfold wpHn wpOp;simp only[ho];rw[if_pos (by simp[Region.wanted])];refine .inl ?_;unfold Oper.wp;obtain⟨v,w',L',hr|⟨hr,rfl⟩,hk,hh'⟩:=he a w hf hh
 ·rw[hr];exact⟨_,(k v L' hk).1.has hh',(fun _ h=>h),(k v L' hk).2 _ w' (hf.put hd v) hh'⟩
 ·rw[hr];exact⟨_,(k _ L' hk).1.has hh',(fun _ h=>h),(k _ L' hk).2 _ w' (hf.put hd _) hh'⟩
theorem naN [Env]{i:Nat}{op:Op}{ty:TypeId}{pos:String}{af:Array Edge}{K:Value→List Seg→Prop}(ho:ops[i]? =some ⟨none,op,ty,pos,af,none⟩)(he:Ac P n ⟨none,op,ty,pos,af,none⟩ l L K)
  (k: ∀v L',K v L'→Ge L' Lh∧Sn P ops n tail Q Lh π l L'):Sn P ops n tail Q Lh (.op i 2 π) l L:=by
 intro a w hf hh;unfold wpHn wpOp;simp only[ho];rw[if_pos (by simp[Region.wanted])];refine .inl ?_;unfold Oper.wp;obtain⟨v,w',L',hr|⟨hr,rfl⟩,hk,hh'⟩:=he a w hf hh
 ·rw[hr];exact⟨_,(k v L' hk).1.has hh',(fun _ h=>h),(k v L' hk).2 _ w' hf hh'⟩
 ·rw[hr];exact⟨_,(k _ L' hk).1.has hh',(fun _ h=>h),(k _ L' hk).2 _ w' hf hh'⟩
theorem naNC [Env](Lh':List Seg){i:Nat}{op:Op}{ty:TypeId}{pos:String}{af:Array Edge}{K:Value→List Seg→Prop}(ho:ops[i]? =some ⟨none,op,ty,pos,af,none⟩)(he:Ac P n ⟨none,op,ty,pos,af,none⟩ l L K)
  (k: ∀v L',K v L'→Ge L' Lh'∧Sn P ops n tail Q Lh' π l L'):Sn P ops n tail Q Lh (.op i 3 π) l L:=by
 intro a w hf hh;unfold wpHn wpOp;simp only[ho];rw[if_pos (by simp[Region.wanted])];refine .inl ?_;unfold Oper.wp;obtain⟨v,w',L',hr|⟨hr,rfl⟩,hk,hh'⟩:=he a w hf hh
 ·rw[hr];exact⟨_,(k v L' hk).1.has hh',(fun w h=>Has.none h),(k v L' hk).2 _ w' hf hh'⟩
 ·rw[hr];exact⟨_,(k _ L' hk).1.has hh',(fun w h=>Has.none h),(k _ L' hk).2 _ w' hf hh'⟩
theorem run_call{w:World}{a:Act}{d:Option Tmp}{ty:TypeId}{pos:String}{af:Array Edge}{g:Option (Nat × Bool)}{f:FuncId}{xs:List Operand}{ts:Array TypeId}{args:List Value}
  (hf:Fr n l a) (hx:evs l xs=some args) (hcall: ∀(args:Array Value) (w:World),(callFunc f args).run P w= .ok (.enter f args) w):
  (execOp a.eval (⟨d,.call {callee:= .value (.func f),args:=xs.toArray,argTypes:=ts},ty,pos,af,g⟩:Oper)).run P w= .ok (.enter f args.toArray) w:=by
 have:=evs_eq hf hx;simp[execOp,resolve,Act.eval,Deferred.ofValue,invoke,hcall,this]
theorem ncall [Env]{i:Nat}{d:Tmp}{ty:TypeId}{pos:String}{af:Array Edge}{f:FuncId}{xs:List Operand}{ts:Array TypeId}{args:List Value}{pre R:List Seg}{post:Value→List Seg→Prop}
  (ho:ops[i]? =some ⟨some d,.call {callee:= .value (.func f),args:=xs.toArray,argTypes:=ts},ty,pos,af,none⟩) (hc:Con P f args pre R post) (hx:evs l xs=some args)
  (hcall: ∀(args:Array Value) (w:World),(callFunc f args).run P w= .ok (.enter f args) w) (ht:Tk L pre R) (hd:Nat.blt d n=true)
  (k: ∀v L',post v L'→Ge (L'++R) Lh∧Sn P ops n tail Q Lh π ((d,v)::l) (L'++R)):Sn P ops n tail Q Lh (.op i 2 π) l L:=by
 intro a w hf hh;unfold wpHn wpOp;simp only[ho];rw[if_pos (by simp[Region.wanted])];refine .inl ?_;unfold Oper.wp;rw[run_call hf hx hcall,Oper.upon_enter];refine(hc w (ht.has hh)).mono ?_;rintro e w' ⟨v,L',rfl,hp,hh'⟩;exact⟨_,(k v L' hp).1.has hh',(fun _ h=>h),(k v L' hp).2 _ w' (hf.put hd v) hh'⟩
theorem nz0 [Env]{i j t:Nat}{b c:Bool}{d:Tmp}{op:Op}{ty:TypeId}{pos:String}{af:Array Edge}(ho:ops[i]? =some ⟨some d,op,ty,pos,af,some (j,c)⟩)(hj:guardTmp ops j=some t)(hl:look l t=some (.bool b))(hb:(b==c)=false)(hd:Nat.blt d n=true)
  (k:Sn P ops n tail Q Lh π ((d,undef)::l) L):Sn P ops n tail Q Lh (.op i 0 π) l L:=
 fun a w hf hh=>⟨_,undef,ho,.inr ⟨by simp[Region.wanted,yielded_of hj hf hl];intro e;subst e;simp at hb,rfl⟩,k _ w (hf.put hd undef) hh⟩
theorem ncall1 [Env]{i j t:Nat}{b:Bool}{d:Tmp}{ty:TypeId}{pos:String}{af:Array Edge}{f:FuncId}{xs:List Operand}{ts:Array TypeId}{args:List Value}{pre R:List Seg}{post:Value→List Seg→Prop}
  (ho:ops[i]? =some ⟨some d,.call {callee:= .value (.func f),args:=xs.toArray,argTypes:=ts},ty,pos,af,some (j,b)⟩) (hj:guardTmp ops j=some t) (hl:look l t=some (.bool b)) (hc:Con P f args pre R post) (hx:evs l xs=some args)
  (hcall: ∀(args:Array Value) (w:World),(callFunc f args).run P w= .ok (.enter f args) w) (ht:Tk L pre R) (hd:Nat.blt d n=true)
  (k: ∀v L',post v L'→Ge (L'++R) Lh∧Sn P ops n tail Q Lh π ((d,v)::l) (L'++R)):Sn P ops n tail Q Lh (.op i 2 π) l L:=by
 intro a w hf hh;unfold wpHn wpOp;simp only[ho];rw[if_pos (by simp[Region.wanted,yielded_of hj hf hl])];refine .inl ?_;unfold Oper.wp;rw[run_call hf hx hcall,Oper.upon_enter];refine(hc w (ht.has hh)).mono ?_;rintro e w' ⟨v,L',rfl,hp,hh'⟩;exact⟨_,(k v L' hp).1.has hh',(fun _ h=>h),(k v L' hp).2 _ w' (hf.put hd v) hh'⟩
theorem na1 [Env]{i j t:Nat}{b:Bool}{d:Tmp}{op:Op}{ty:TypeId}{pos:String}{af:Array Edge}{K:Value→List Seg→Prop}(ho:ops[i]? =some ⟨some d,op,ty,pos,af,some (j,b)⟩)(hj:guardTmp ops j=some t)(hl:look l t=some (.bool b))(he:Ac P n ⟨some d,op,ty,pos,af,some (j,b)⟩ l L K)(hd:Nat.blt d n=true)
  (k: ∀v L',K v L'→Ge L' Lh∧Sn P ops n tail Q Lh π ((d,v)::l) L'):Sn P ops n tail Q Lh (.op i 2 π) l L:=by
 intro a w hf hh;unfold wpHn wpOp;simp only[ho];rw[if_pos (by simp[Region.wanted,yielded_of hj hf hl])];refine .inl ?_;unfold Oper.wp;obtain⟨v,w',L',hr|⟨hr,rfl⟩,hk,hh'⟩:=he a w hf hh
 ·rw[hr];exact⟨_,(k v L' hk).1.has hh',(fun _ h=>h),(k v L' hk).2 _ w' (hf.put hd v) hh'⟩
 ·rw[hr];exact⟨_,(k _ L' hk).1.has hh',(fun _ h=>h),(k _ L' hk).2 _ w' (hf.put hd _) hh'⟩
end
section
variable {P : Program} {n : Nat} {l : List (Nat × Value)} {L : List Seg}
theorem kretc [Env]{fn:Func}{R L1:List Seg}{post:Value→List Seg→Prop}{t:Tmp}{T T':TypeId}{b k:Nat}{vs:List Value}(hr:fn.results= #[.cell t T])(hl:look l t=some (.pointer (some ⟨b,0,none⟩)))
  (ha: ∀w,(isAgg T).run P w= .ok true w) (hs: ∀w,(sizeOf T).run P w= .ok k w) (hi:In L (sc b vs T')) (hk:vs.length=k) (hg:Ge L L1) (hp: ∃L',post (.agg vs.toArray) L'∧L1=L'++R):
  Sk n (bodyPost P fn (CP post R) .ret) l L:=by
 obtain⟨L',h1,rfl⟩:=hp;intro a w hf hh;have h2:=run_loadAll hi ha hs hk hh;have h4:=hf.get t _ hl;simp only[Array.getD_eq_getD_getElem?]at h4
 have h3:(results fn a.tmps).run P w= .ok (.agg vs.toArray) w:=by
  simp[results,hr,h4,asAddr,h2]
 exact⟨hf.defers,_,h3,_,L',rfl,h1,hg.has hh⟩
end
section
variable {P : Program} {ops : Array Oper} {n : Nat} {rest : List Oper} {Q : Exit → Act → World → Prop} {l : List (Nat × Value)} {L : List Seg}
theorem yreP [Env]{L':List Seg}(p:L.flatten.Perm L'.flatten)(h:Sy P ops n rest Q l L'):Sy P ops n rest Q l L:=fun a w hf hh=>h a w hf (hh.perm p)
end
end Go.Sl
namespace Go.Sl
section
variable {P : Program} {ops : Array Oper} {n : Nat} {Q : Exit → Act → World → Prop} {l : List (Nat × Value)} {L Lh : List Seg} {π : Pi} {tail : List Oper}
theorem na0 [Env]{i j t:Nat}{b c:Bool}{d:Tmp}{op:Op}{ty:TypeId}{pos:String}{af:Array Edge}(ho:ops[i]? =some ⟨some d,op,ty,pos,af,some (j,c)⟩)(hj:guardTmp ops j=some t)(hl:look l t=some (.bool b))(hb:(b==c)=false)(hd:Nat.blt d n=true)(hg:Ge L Lh)
  (k:Sn P ops n tail Q Lh π ((d,undef)::l) L):Sn P ops n tail Q Lh (.op i 2 π) l L:=by
 intro a w hf hh;unfold wpHn wpOp;simp only[ho];rw[if_neg (by simp[Region.wanted,yielded_of hj hf hl];intro e;subst e;simp at hb)];exact⟨_,hg.has hh,(fun _ h=>h),k _ w (hf.put hd undef) hh⟩
theorem nz0u [Env]{i j t:Nat}{c:Bool}{d:Tmp}{op:Op}{ty:TypeId}{pos:String}{af:Array Edge}(ho:ops[i]? =some ⟨some d,op,ty,pos,af,some (j,c)⟩)(hj:guardTmp ops j=some t)(hl:look l t=some undef)(hd:Nat.blt d n=true)
  (k:Sn P ops n tail Q Lh π ((d,undef)::l) L):Sn P ops n tail Q Lh (.op i 0 π) l L:=
 fun a w hf hh=>⟨_,undef,ho,.inr ⟨by simp[Region.wanted,yielded_undef hj hf hl],rfl⟩,k _ w (hf.put hd undef) hh⟩
end
/-- A call may let go of a part that it doesn't need. -/
theorem Con.shed [Env]{P:Program}{f:FuncId}{args:List Value}{pre pre' R:List Seg}{s:Seg}{post:Value→List Seg→Prop}(h:Con P f args pre' (s::R) post)(hp:(pre++R).flatten.Perm (pre'++s::R).flatten):Con P f args pre R post:=by
 intro w hh;refine(h w (hh.perm hp)).mono ?_;rintro e w' ⟨v,L',rfl,h1,h2⟩;refine⟨v,L',rfl,h1,h2.sub ⟨s,?_⟩⟩;simp only[List.flatten_append,List.flatten_cons,List.append_assoc];exact List.Perm.append_left _ List.perm_append_comm
end Go.Sl
namespace Go.Sl
class FaC(P:Program)(s f:Nat)(off:outParam Nat):Prop where
 h: ∃fs t k,P.underlying s=some (.struct fs)∧(fs[f]?).map (fun fd=>(fd.offset,fd.type))=some (off,t)∧ ∀w,(sizeOf t).run P w= .ok (k+1) w
class AgC(P:Program)(t:TypeId):Prop where
 h: ∀w,(isAgg t).run P w= .ok false w
/-- What a simple operation yields. -/
inductive EI [Env](P:Program)(l:List (Nat × Value))(L:List Seg):Op→Value→Prop
 |mv {x:Operand} {v:Value} (hx:ev l x=some v):EI P l L (.move x) v
 |nc {x:Operand} {a0:Addr} (hx:ev l x=some (.pointer (some a0))):EI P l L (.nilCheck x) (.pointer (some a0))
 |fa {s:TypeId} {x:Operand} {f b o off:Nat} [hu:FaC P s f off] (hx:ev l x=some (.pointer (some ⟨b,o,none⟩))):EI P l L (.fieldAddr s x f) (.pointer (some ⟨b,o+off,none⟩))
 |ld {t:TypeId} {x:Operand} {b o:Nat} {vs:List Value} {T:TypeId} {fr:Nat × Nat} {v:Value} [ha:AgC P t] (hx:ev l x=some (.pointer (some ⟨b,o,none⟩))) (hi:In L (so b (.cells vs.toArray T fr))) (hv:vs[o]? =some v):EI P l L (.load t x) v
 |sg {x:Operand} {v:Value} (hx:ev l x=some v):EI P l L (.assign x) v
 |pk {c x z:Operand} {b:Bool} {v:Value} (hc:ev l c=some (.bool b)) (hx:ev l (bif b then x else z)=some v):EI P l L (.pick c x z) v
 |xt {x:Operand} {vs:List Value} {i:Nat} {v:Value} (hx:ev l x=some (.tuple vs.toArray)) (hv:vs[i]? =some v):EI P l L (.extract x i) v
 |no {t:TypeId} {x:Operand} {p:Bool} (hx:ev l x=some (.bool p)):EI P l L (.unOp .not t x) (.bool (!p))
 |eq {t t':TypeId} {x y:Operand} {k:IntKind} {p q:Int} (hx:ev l x=some (.int k p)) (hy:ev l y=some (.int k q)):EI P l L (.binOp .eql t x y t') (.bool (decide (p=q)))
 |nq {t t':TypeId} {x y:Operand} {k:IntKind} {p q:Int} (hx:ev l x=some (.int k p)) (hy:ev l y=some (.int k q)):EI P l L (.binOp .neq t x y t') (.bool (!decide (p=q)))
 |lq {t t':TypeId} {x y:Operand} {k:IntKind} {p q:Int} (hx:ev l x=some (.int k p)) (hy:ev l y=some (.int k q)):EI P l L (.binOp .leq t x y t') (.bool (decide (p≤q)))
 |gt {t t':TypeId} {x y:Operand} {k:IntKind} {p q:Int} (hx:ev l x=some (.int k p)) (hy:ev l y=some (.int k q)):EI P l L (.binOp .gtr t x y t') (.bool (decide (q<p)))
 |ge {t t':TypeId} {x y:Operand} {k:IntKind} {p q:Int} (hx:ev l x=some (.int k p)) (hy:ev l y=some (.int k q)):EI P l L (.binOp .geq t x y t') (.bool (decide (q≤p)))
 |ad {t t':TypeId} {x y:Operand} {k:IntKind} {p q:Int} (hx:ev l x=some (.int k p)) (hy:ev l y=some (.int k q)):EI P l L (.binOp .add t x y t') (.int k (k.wrap (p+q)))
 |su {t t':TypeId} {x y:Operand} {k:IntKind} {p q:Int} (hx:ev l x=some (.int k p)) (hy:ev l y=some (.int k q)):EI P l L (.binOp .sub t x y t') (.int k (k.wrap (p-q)))
 |ls {t t':TypeId} {x y:Operand} {k:IntKind} {p q:Int} (hx:ev l x=some (.int k p)) (hy:ev l y=some (.int k q)):EI P l L (.binOp .lss t x y t') (.bool (decide (p<q)))
theorem EI.ev [Env]{P:Program}{n:Nat}{l:List (Nat × Value)}{L:List Seg}{d:Option Tmp}{op:Op}{ty:TypeId}{pos:String}{af:Array Edge}{g:Option (Nat × Bool)}{v:Value}(h:EI P l L op v):Ev P n ⟨d,op,ty,pos,af,g⟩ l L v:=by
 cases h with
 |mv hx=>exact ev_move hx
 |nc hx=>exact ev_nil hx
 |fa hx=>rename_i hu;obtain⟨fs,t,k,h1,h2,h3⟩:=hu.h;exact ev_fieldAddr _ hx h1 h2 h3
 |ld hx hi hv=>rename_i ha;exact ev_load hx ha.h hi hv
 |sg hx=>exact ev_assign hx
 |pk hc hx=>
  rename_i b
  cases b
  · exact ev_pick0 hc hx
  · exact ev_pick1 hc hx
 |xt hx hv=>exact ev_extract hx hv
 |no hx=>exact ev_not hx
 |eq hx hy=>exact ev_eql hx hy
 |ls hx hy=>exact ev_lss hx hy
 |nq hx hy=>exact ev_neq hx hy
 |lq hx hy=>exact ev_leq hx hy
 |gt hx hy=>exact ev_gtr hx hy
 |ge hx hy=>exact ev_geq hx hy
 |ad hx hy=>exact ev_add hx hy
 |su hx hy=>exact ev_sub hx hy
/-- Whether an operation runs, where that is known. -/
def gSt(ops:Array Oper)(l:List (Nat × Value)):Option (Nat × Bool)→Option Bool
 |none=>some true
 |some (j,c)=>match guardTmp ops j with
  |none=>none
  |some t=>match look l t with
   |some (.bool b)=>some (b==c)
   |_=>none
inductive EO [Env](P:Program)(l:List (Nat × Value))(L:List Seg):Bool→Op→Value→Prop
 |t {op:Op} {v:Value} (h:EI P l L op v):EO P l L true op v
 |f {op:Op}:EO P l L false op undef
/-- Simple operations, one behind the other. -/
inductive YI [Env](P:Program)(ops:Array Oper)(n:Nat)(L:List Seg):Nat→List Oper→List (Nat × Value)→List Oper→List (Nat × Value)→Prop
 |st {k:Nat} {d:Tmp} {op:Op} {ty:TypeId} {pos:String} {af:Array Edge} {g:Option (Nat × Bool)} {os os':List Oper} {l l':List (Nat × Value)} {on:Bool} {v:Value} (hg:gSt ops l g=some on) (he:EO P l L on op v) (hd:Nat.blt d n=true) (r:YI P ops n L k os ((d,v)::l) os' l'):YI P ops n L (k+1) (⟨some d,op,ty,pos,af,g⟩::os) l os' l'
 |z {os:List Oper} {l:List (Nat × Value)}:YI P ops n L 0 os l os l
theorem gSt_on{ops:Array Oper}{l:List (Nat × Value)}{j:Nat}{c on:Bool}(h:gSt ops l (some (j,c))=some on): ∃t b,guardTmp ops j=some t∧look l t=some (.bool b)∧on=(b==c):=by
 unfold gSt at h;dsimp only at h;split at h
 ·cases h
 ·rename_i t ht
  split at h
  ·rename_i b hb
   exact⟨t,b,ht,hb,(Option.some.inj h).symm⟩
  ·cases h
theorem YI.run [Env]{P:Program}{ops:Array Oper}{n:Nat}{L:List Seg}{k:Nat}{os os':List Oper}{l l':List (Nat × Value)}{Q:Exit→Act→World→Prop}(h:YI P ops n L k os l os' l')(q:Sy P ops n os' Q l' L):Sy P ops n os Q l L:=by
 induction h with
 |z=>exact q
 |st hg he hd r ih=>
  rename_i g _ _ _ _ on _
  cases he with
  |t he=>
   match g,hg with
   |none,_=>exact y he.ev hd (ih q)
   |some (j,c),hg=>
    obtain⟨t,b,h1,h2,h3⟩:=gSt_on hg;have hbc:b=c:=eq_of_beq h3.symm;subst hbc;exact yg1 h1 h2 (y he.ev hd (ih q))
  |f=>
   match g,hg with
   |some (j,c),hg=>
    obtain⟨t,b,h1,h2,h3⟩:=gSt_on hg;exact yg0 h1 h2 h3.symm hd (ih q)
theorem yr [Env]{P:Program}{ops:Array Oper}{n:Nat}{L:List Seg}(k:Nat){os os':List Oper}{l l':List (Nat × Value)}{Q:Exit→Act→World→Prop}(q:Sy P ops n os' Q l' L)(h:YI P ops n L k os l os' l':=by repeat constructor):Sy P ops n os Q l L:=h.run q
class BdC(P:Program)(t:TypeId)(pl:outParam (List (Nat × Nat)))(zs:outParam (List Value)):Prop where
 h: ∃fs zv,P.underlying t=some (.struct fs)∧(∀w,(zeroValue t).run P w= .ok zv w)∧zv.cells=zs.toArray∧Places P fs.toList pl
theorem ev_bd [Env]{P:Program}{n:Nat}{l:List (Nat × Value)}{L:List Seg}{d:Option Tmp}{ty:TypeId}{pos:String}{af:Array Edge}{g:Option (Nat × Bool)}{t:TypeId}{parts:List (Nat × Operand)}{ps:List (Nat × Value)}{zs:List Value}{pl:List (Nat × Nat)}(vs:List Value) [hb:BdC P t pl zs](hp:evps l parts=some ps:=by exact rfl)(hok:fillOk pl zs.length ps:=by repeat constructor)(hv:fillL pl zs ps=vs:=by kernel_rfl):
  Ev P n ⟨d,.build t parts.toArray,ty,pos,af,g⟩ l L (.agg vs.toArray):=by
 obtain⟨fs,zv,h1,h2,h3,h4⟩:=hb.h;exact ev_build hp h1 h2 h3 h4 hok hv
theorem ev_be [Env]{P:Program}{n:Nat}{l:List (Nat × Value)}{L:List Seg}{d:Option Tmp}{ty:TypeId}{pos:String}{af:Array Edge}{g:Option (Nat × Bool)}{t:TypeId}{parts:List (Nat × Operand)}{ps:List (Nat × Value)}{zs vs:List Value}{pl:List (Nat × Nat)} [hb:BdC P t pl zs](hp:evps l parts=some ps)(hok:fillOk pl zs.length ps:=by repeat constructor)(hv:fillL pl zs ps=vs:=by(dsimp[fillL,splice,vcells]<;>rfl)):
  Ev P n ⟨d,.build t parts.toArray,ty,pos,af,g⟩ l L (.agg vs.toArray):=by
 obtain⟨fs,zv,h1,h2,h3,h4⟩:=hb.h;exact ev_build hp h1 h2 h3 h4 hok hv
theorem csr [Env]{P:Program}{n id:Nat}{os:List Oper}{z:Code}{Q:Exit→Act→World→Prop}{l:List (Nat × Value)}{L:List Seg}(h:Sy P os.toArray n os (Exit.then (z.wp P Q) Q) l L):Sc P n (.seq (.region id os.toArray false) z) Q l L:=cseqW (creg h)
theorem ynr [Env]{P:Program}{ops:Array Oper}{n:Nat}{z:Code}{Q:Exit→Act→World→Prop}{l:List (Nat × Value)}{L:List Seg}(h:Sc P n z Q l L):Sy P ops n [] (Exit.then (z.wp P Q) Q) l L:=ynil' (kthn h)
theorem cy [Env]{P:Program}{n id:Nat}{L:List Seg}(k:Nat){z:Code}{os os':List Oper}{l l':List (Nat × Value)}{Q:Exit→Act→World→Prop}(q:Sy P os.toArray n os' (Exit.then (z.wp P Q) Q) l' L)(h:YI P os.toArray n L k os l os' l':=by repeat constructor):Sc P n (.seq (.region id os.toArray false) z) Q l L:=csr (h.run q)
theorem cyn [Env]{P:Program}{n id:Nat}{L:List Seg}(k:Nat){z:Code}{os:List Oper}{l l':List (Nat × Value)}{Q:Exit→Act→World→Prop}(q:Sc P n z Q l' L)(h:YI P os.toArray n L k os l [] l':=by repeat constructor):Sc P n (.seq (.region id os.toArray false) z) Q l L:=csr (h.run (ynr q))
theorem yn [Env]{P:Program}{ops:Array Oper}{n:Nat}{L:List Seg}(k:Nat){z:Code}{os:List Oper}{l l':List (Nat × Value)}{Q:Exit→Act→World→Prop}(q:Sc P n z Q l' L)(h:YI P ops n L k os l [] l':=by repeat constructor):Sy P ops n os (Exit.then (z.wp P Q) Q) l L:=h.run (ynr q)
theorem cr [Env]{P:Program}{n id:Nat}{L:List Seg}(k:Nat){os os':List Oper}{l l':List (Nat × Value)}{Q:Exit→Act→World→Prop}(q:Sy P os.toArray n os' Q l' L)(h:YI P os.toArray n L k os l os' l':=by repeat constructor):Sc P n (.region id os.toArray false) Q l L:=creg (h.run q)
theorem yst [Env]{P:Program}{ops:Array Oper}{n:Nat}{rest:List Oper}{Q:Exit→Act→World→Prop}{l:List (Nat × Value)}{L L1:List Seg}{op:Op}{ty:TypeId}{pos:String}{af:Array Edge}(he:Ac P n ⟨none,op,ty,pos,af,none⟩ l L (KTo L1))(k:Sy P ops n rest Q l L1):Sy P ops n (⟨none,op,ty,pos,af,none⟩::rest) Q l L:=
 ya0 he (by rintro v L' ⟨-,rfl⟩;exact k)
theorem yci [Env]{P:Program}{ops:Array Oper}{n:Nat}{rest:List Oper}{Q:Exit→Act→World→Prop}{l:List (Nat × Value)}{L L1 R pre:List Seg}{d:Tmp}{ty:TypeId}{pos:String}{af:Array Edge}{f:FuncId}{xs:List Operand}{ts:Array TypeId}{args:List Value}{v:Value}(hc:Con P f args pre R (Is v L1))(hcall: ∀(args:Array Value) (w:World),(callFunc f args).run P w= .ok (.enter f args) w)(k:Sy P ops n rest Q ((d,v)::l) (L1++R))(hx:evs l xs=some args:=by exact rfl)(ht:Tk L pre R:=by repeat first|exact .nil|exact .z|apply Pk.s|apply Tk.cons)(hd:Nat.blt d n=true:=by exact rfl):
  Sy P ops n (⟨some d,.call {callee:= .value (.func f),args:=xs.toArray,argTypes:=ts},ty,pos,af,none⟩::rest) Q l L:=
 ycall hc hx hcall ht hd (by rintro u L' ⟨rfl,rfl⟩;exact k)
/-- An order without leaps: all readers but those named. -/
def od(F:List Nat):Nat→Nat→List (Nat × Bool)
 |0,_=>[]
 |k+1,i=>(i,!F.contains i)::od F k (i+1)
/-- The same in a region that draws its order. -/
inductive HI [Env](P:Program)(ops:Array Oper)(n:Nat)(L:List Seg):Nat→List (Nat × Bool)→List (Nat × Value)→List (Nat × Bool)→List (Nat × Value)→Prop
 |st {k i:Nat} {d:Tmp} {op:Op} {ty:TypeId} {pos:String} {af:Array Edge} {g:Option (Nat × Bool)} {π π':List (Nat × Bool)} {l l':List (Nat × Value)} {on:Bool} {v:Value} (ho:ops[i]? =some ⟨some d,op,ty,pos,af,g⟩) (hg:gSt ops l g=some on) (he:EO P l L on op v) (hd:Nat.blt d n=true) (r:HI P ops n L k π ((d,v)::l) π' l'):HI P ops n L (k+1) ((i,true)::π) l π' l'
 |z {π:List (Nat × Bool)} {l:List (Nat × Value)}:HI P ops n L 0 π l π l
theorem HI.run [Env]{P:Program}{ops:Array Oper}{n:Nat}{tail:List Oper}{L Lh:List Seg}{k:Nat}{π π':List (Nat × Bool)}{l l':List (Nat × Value)}{Q:Exit→Act→World→Prop}(h:HI P ops n Lh k π l π' l')(q:Sh P ops n tail Q Lh π' l' L):Sh P ops n tail Q Lh π l L:=by
 induction h with
 |z=>exact q
 |st ho hg he hd r ih=>
  rename_i g _ _ _ _ on _
  cases he with
  |t he=>
   match g,hg,ho with
   |none,_,ho=>exact hr ho he.ev hd (ih q)
   |some (j,c),hg,ho=>
    obtain⟨t,b,h1,h2,h3⟩:=gSt_on hg;have hbc:b=c:=eq_of_beq h3.symm;subst hbc;exact hr1 ho h1 h2 he.ev hd (ih q)
  |f=>
   match g,hg,ho with
   |some (j,c),hg,ho=>
    obtain⟨t,b,h1,h2,h3⟩:=gSt_on hg;exact hr0 ho h1 h2 h3.symm hd (ih q)
theorem hy [Env]{P:Program}{ops:Array Oper}{n:Nat}{tail:List Oper}{L Lh:List Seg}(k:Nat){π π':List (Nat × Bool)}{l l':List (Nat × Value)}{Q:Exit→Act→World→Prop}(q:Sh P ops n tail Q Lh π' l' L)(h:HI P ops n Lh k π l π' l':=by repeat constructor):Sh P ops n tail Q Lh π l L:=h.run q
end Go.Sl