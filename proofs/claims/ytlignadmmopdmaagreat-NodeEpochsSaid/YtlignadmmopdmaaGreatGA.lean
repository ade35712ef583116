/- A part of the proof. -/
import Derived.Tactics
import Derived.OrdersHeld
import Derived.Laws.Slices
import Derived.Laws.CopyRow
import Derived.Laws.AppendOwn
import Derived.Laws.Small
import Derived.WalkKit
import Derived.StillTail
set_option linter.unusedVariables false
set_option linter.unusedSimpArgs false
set_option linter.constructorNameAsVariable false
namespace Go.Sl
abbrev ax:=List (Nat × Obj)
def sc(b:Nat)(vs:List Value)(T:TypeId):ax:=[(b,.cells vs.toArray T (0,0))]
def so(b:Nat)(o:Obj):ax:=[(b,o)]
class Env where
 w0:World
def Dl [E:Env](w:World):Prop:=w.os=E.w0.os∧w.tape=E.w0.tape∧w.output=E.w0.output
structure Has [Env](w:World)(L:List ax):Prop where
 env:Dl w
 mem: ∀x∈L.flatten,w.heap[x.1]? =some x.2
 nd:(L.flatten.map Prod.fst).Nodup
theorem Has.perm [Env]{w:World}{L L':List ax}(h:Has w L)(p:L.flatten.Perm L'.flatten):Has w L':=
 ⟨h.env,fun x hx=>h.mem x (p.mem_iff.2 hx),(p.map _).nodup_iff.1 h.nd⟩
theorem Has.sub [Env]{w:World}{L L':List ax}(h:Has w L)(p: ∃M:ax,L.flatten.Perm (L'.flatten++M)):Has w L':=by
 obtain⟨M,p⟩:=p;refine⟨h.env,fun x hx=>h.mem x (p.mem_iff.2 (List.mem_append_left _ hx)),?_⟩;have:=(p.map Prod.fst).nodup_iff.1 h.nd;rw[List.map_append]at this;exact(List.nodup_append.1 this).1
inductive Pk:List ax→ax→List ax→Prop
 |z {s L}:Pk (s::L) s L
 |s {x s L L'}:Pk L s L'→Pk (x::L) s (x::L')
theorem Pk.perm{L L':List ax}{s:ax}(h:Pk L s L'):L.flatten.Perm (s++L'.flatten):=by
 induction h with
 |z=>simp
 |@s x s L L' _ ih=>
  simp only[List.flatten_cons];refine(List.Perm.append_left x ih).trans ?_;rw[←List.append_assoc,←List.append_assoc];exact List.Perm.append_right _ List.perm_append_comm
theorem Pk.has [Env]{w:World}{L L':List ax}{s:ax}(h:Pk L s L')(hh:Has w L):Has w (s::L'):=
 hh.perm (by simpa using h.perm)
theorem Pk.back [Env]{w:World}{L L':List ax}{s:ax}(h:Pk L s L')(hh:Has w (s::L')):Has w L:=
 hh.perm (by simpa using h.perm.symm)
inductive Rp:List ax→ax→ax→List ax→Prop
 |z {s s' L}:Rp (s::L) s s' (s'::L)
 |s {x s s' L L'}:Rp L s s' L'→Rp (x::L) s s' (x::L')
theorem Rp.pk{L L':List ax}{s s':ax}(h:Rp L s s' L'): ∃M,Pk L s M∧Pk L' s' M:=by
 induction h with
 |z=>exact⟨_,.z,.z⟩
 |s _ ih=>obtain⟨M,h1,h2⟩:=ih;exact⟨_,.s h1,.s h2⟩
inductive In:List ax→ax→Prop
 |z {s L}:In (s::L) s
 |s {x s L}:In L s→In (x::L) s
theorem In.mem{L:List ax}{s:ax}(h:In L s):s∈L:=by
 induction h with
 |z=>exact List.mem_cons_self
 |s _ ih=>exact List.mem_cons_of_mem _ ih
theorem Has.at [Env]{w:World}{L:List ax}{s:ax}(h:Has w L)(hi:In L s){b:Nat}{o:Obj}(hm:(b,o)∈s):w.heap[b]? =some o:=
 h.mem (b,o) (List.mem_flatten.2 ⟨s,hi.mem,hm⟩)
theorem Has.cells [Env]{w:World}{L:List ax}{b:Nat}{vs:List Value}{T:TypeId}(h:Has w L)(hi:In L (sc b vs T)):
 w.heap[b]? =some (.cells vs.toArray T (0,0)):=h.at hi (by simp[sc])
theorem Has.obj [Env]{w:World}{L:List ax}{b:Nat}{o:Obj}(h:Has w L)(hi:In L (so b o)):w.heap[b]? =some o:=h.at hi (by simp[so])
inductive Tk:List ax→List ax→List ax→Prop
 |nil {L}:Tk L [] L
 |cons {L s L1 pre R}:Pk L s L1→Tk L1 pre R→Tk L (s::pre) R
theorem Tk.perm{L pre R:List ax}(h:Tk L pre R):L.flatten.Perm ((pre++R).flatten):=by
 induction h with
 |nil=>simp
 |cons hp _ ih=>
  refine hp.perm.trans ?_;simp only[List.cons_append,List.flatten_cons];exact List.Perm.append_left _ ih
theorem Tk.has [Env]{w:World}{L pre R:List ax}(h:Tk L pre R)(hh:Has w L):Has w (pre++R):=hh.perm h.perm
inductive Ge:List ax→List ax→Prop
 |refl {L}:Ge L L
 |nil {L}:Ge L []
 |e {L M}:Ge L M→Ge L ([]::M)
 |pick {L s L1 M}:Pk L s L1→Ge L1 M→Ge L (s::M)
 |drop {x L M}:Ge L M→Ge (x::L) M
theorem Ge.sub{L M:List ax}(h:Ge L M): ∃N:ax,L.flatten.Perm (M.flatten++N):=by
 induction h with
 |refl=>exact⟨[],by simp⟩
 |@nil L=>exact⟨L.flatten,by simp⟩
 |e _ ih=>obtain⟨N,hn⟩:=ih;exact⟨N,by simpa using hn⟩
 |@pick L s L1 M hp _ ih=>
  obtain⟨N,hn⟩:=ih;refine⟨N,hp.perm.trans ?_⟩;simp only[List.flatten_cons,List.append_assoc];exact List.Perm.append_left _ hn
 |@drop x L M _ ih=>
  obtain⟨N,hn⟩:=ih;refine⟨x++N,?_⟩;simp only[List.flatten_cons];refine(List.Perm.append_left x hn).trans ?_;rw[←List.append_assoc,←List.append_assoc];exact List.Perm.append_right _ List.perm_append_comm
theorem Ge.has [Env]{w:World}{L M:List ax}(h:Ge L M)(hh:Has w L):Has w M:=hh.sub h.sub
theorem Has.re [Env]{w:World}{L M:List ax}(h:L.flatten=M.flatten)(hh:Has w L):Has w M:=hh.perm (h▸List.Perm.refl _)
theorem Has.of_heap [Env]{w w':World}{L:List ax}(h:Has w L)(e:w'.heap=w.heap)(e2:Dl w→Dl w'):Has w' L:=⟨e2 h.env,fun x hx=>e▸h.mem x hx,h.nd⟩
theorem Has.drew [Env]{w:World}{L:List ax}(h:Has w L):Has w.drew L:=h.of_heap rfl fun h=>h
theorem Has.drawn [Env]{w:World}{L:List ax}(h:Has w L)(n:Nat):Has {w with drawn:=n} L:=h.of_heap rfl fun h=>h
theorem Has.lt [Env]{w:World}{L:List ax}(h:Has w L){x:Nat × Obj}(hx:x∈L.flatten):x.1<w.heap.size:=
 (Array.getElem?_eq_some_iff.1 (h.mem x hx)).1
theorem Has.alloc [Env]{w:World}{L:List ax}(h:Has w L)(o:Obj):Has (w.alloc o) (so w.heap.size o::L):=by
 refine⟨h.env,?_,?_⟩
 ·intro x hx;simp only[so,List.flatten_cons,List.cons_append,List.nil_append,List.mem_cons]at hx;show(w.heap.push o)[x.1]? =some x.2;rcases hx with rfl|hx
  ·exact Array.getElem?_push_size
  ·have:=h.lt hx;rw[Array.getElem?_push];split
   · omega
   · exact h.mem x hx
 ·simp only[so,List.flatten_cons,List.cons_append,List.nil_append,List.map_cons,List.nodup_cons];refine⟨fun hm=>?_,h.nd⟩;obtain⟨x,hx,e⟩:=List.mem_map.1 hm;have:=h.lt hx;omega
def oz(w:World)(b:Nat)(o:Obj):World:={w with heap:=w.heap.setIfInBounds b o}
theorem Has.oz [Env]{w:World}{L L':List ax}{b:Nat}{o o':Obj}(h:Has w L)(r:Rp L (so b o) (so b o') L'):Has (oz w b o') L':=by
 obtain⟨M,h1,h2⟩:=r.pk;have hh:=h1.has h;refine h2.back ⟨h.env,?_,?_⟩
 ·intro x hx;have oJ:=hh.nd;simp only[so,List.flatten_cons,List.cons_append,List.nil_append,List.mem_cons,List.map_cons,List.nodup_cons]at hx oJ;rcases hx with rfl|hx
  ·have hl:b<w.heap.size:=hh.lt (x:=(b,o)) (by simp[so]);simp[Sl.oz,hl]
  ·have xY:x.1≠b:=fun e=>oJ.1 (List.mem_map.2 ⟨x,hx,e⟩)
   have:=hh.mem x (by simp[so,hx]);simp only[Sl.oz];rw[Array.getElem?_setIfInBounds_ne (Ne.symm xY)];exact this
 ·simpa[so]using hh.nd
def look:List (Nat × Value)→Nat→Option Value
 | [],_=>none
 |(a,v)::l,t=>bif Nat.beq a t then some v else look l t
structure Fr(n:Nat)(l:List (Nat × Value))(a:Act):Prop where
 size:a.tmps.size=n
 defers:a.defers=[]
 get: ∀t v,look l t=some v→a.tmps.getD t undef=v
def ev(l:List (Nat × Value)):Operand→Option Value
 | .tmp t=>look l t
 | .const v=>some v
 | .global g=>some (.pointer (some ⟨g,0,none⟩))
 | .func f=>some (.func (.func f) #[] #[])
theorem Fr.ev{n:Nat}{l:List (Nat × Value)}{a:Act}(h:Fr n l a){x:Operand}{v:Value}(hx:ev l x=some v):a.eval x=v:=by
 cases x with
 |tmp t=>exact h.get t v hx
 |const u=>exact Option.some.inj hx
 |global g=>exact Option.some.inj hx
 |func f=>exact Option.some.inj hx
theorem Fr.put{n:Nat}{l:List (Nat × Value)}{a:Act}(h:Fr n l a){d:Nat}(hd:Nat.blt d n=true)(v:Value):Fr n ((d,v)::l) (a.put (some d) v):=by
 have hd':d<n:=by simpa using hd
 refine⟨by simpa[Act.put]using h.size,h.defers,fun t u ht=>?_⟩
 by_cases e:d=t
 ·subst e;have hb:Nat.beq d d=true:=by simp
  simp only[look,hb,cond_true]at ht;have hs:d<a.tmps.size:=by rw[h.size];exact hd'
  simp[Act.put,hs];simpa using ht
 ·have hb:Nat.beq d t=false:=by rw[←Bool.not_eq_true];exact fun hh=>e (Nat.eq_of_beq_eq_true hh)
  simp only[look,hb,cond_false]at ht;have:=h.get t u ht;simpa[Act.put,Array.getElem?_setIfInBounds_ne e]using this
def sub(l l':List (Nat × Value)):Prop:= ∀t v,look l' t=some v→look l t=some v
theorem Fr.sub{n:Nat}{l l':List (Nat × Value)}{a:Act}(h:Fr n l a)(hs:sub l l'):Fr n l' a:=
 ⟨h.size,h.defers,fun t v ht=>h.get t v (hs t v ht)⟩
theorem VG{l:List (Nat × Value)}:sub l []:=fun _ _ h=>by cases h
theorem FP{l l':List (Nat × Value)}{t:Nat}{v:Value}(h:look l t=some v)(hs:sub l l'):sub l ((t,v)::l'):=by
 intro u x hx
 by_cases e:Nat.beq t u=true
 ·simp only[look,e,cond_true]at hx;have:t=u:=by simpa using e
  subst this;rw[h];exact hx
 ·simp only[look,e,cond_false]at hx;exact hs u x hx
theorem MC{l l':List (Nat × Value)}{t:Nat}{v u:Value}(h:look l t=some u)(e:u=v)(hs:sub l l'):sub l ((t,v)::l'):=FP (e▸h) hs
theorem ml(args:Array Value)(n:Nat)(h:args.size≤n)(l:List (Nat × Value))(hl: ∀t v,look l t=some v→args[t]? =some v):
  Fr n l {tmps:=args++Array.replicate (n-args.size) undef,defers:=[]}:=by
 refine⟨by simp;omega,rfl,fun t v ht=>?_⟩;have h1:=hl t v ht;have:t<args.size:=(Array.getElem?_eq_some_iff.1 h1).1;simp[Array.getElem?_append,this];simp[Array.getElem?_eq_getElem this]at h1;exact h1
theorem sH:(∀(p:Prop) [Decidable p],(decide p=true)=p)∧(∀(α:Type) [BEq α] [LawfulBEq α] (a b:α),((a==b)=true)=(a=b))∧
  (∀(α:Type) [BEq α] [LawfulBEq α] (a b:α),((a==b)=false)=(a≠b))∧(∀(p q:Prop) [Decidable p] [Decidable q],(decide p=decide q)=(p↔q))∧
  (∀(p:Prop) [Decidable p],(decide p=false)= ¬p)∧(∀b:Bool,((!b)=true)=(b=false))∧(∀b:Bool,((!b)=false)=(b=true))∧
  (∀b:Bool,(¬(b=true))=(b=false))∧(∀b:Bool,(¬(b=false))=(b=true))∧(∀b:Bool,(!!b)=b)∧(∀(α:Type) (a b:α),(a≠b)= ¬(a=b))∧
  (∀(α:Type) (a:α),(some a).isNone=false)∧(∀(α:Type) (a:α),(some a).isSome=true)∧(∀(α:Type),(none:Option α).isNone=true)∧(∀(α:Type),(none:Option α).isSome=false):=
 ⟨fun _ _=>decide_eq_true_eq,fun _ _ _ _ _=>propext beq_iff_eq,fun _ _ _ _ _=>propext beq_eq_false_iff_ne,fun _ _ _ _=>propext decide_eq_decide,fun _ _=>propext decide_eq_false_iff_not,
  fun b=>by cases b<;>simp,fun b=>by cases b<;>simp,fun b=>by cases b<;>simp,fun b=>by cases b<;>simp,fun b=>by cases b<;>rfl,fun _ _ _=>rfl,fun _ _=>rfl,fun _ _=>rfl,fun _=>rfl,fun _=>rfl⟩
end Go.Sl
namespace Go.Sl
def Ev [Env](P:Program)(n:Nat)(o:Oper)(l:List (Nat × Value))(L:List ax)(v:Value):Prop:=
 ∀a w,Fr n l a→Has w L→(execOp a.eval o).run P w= .ok (.value v) w
section
variable {P : Program} {n : Nat} {l : List (Nat × Value)} {L : List ax} {d : Option Tmp} {ty : TypeId} {pos : String} {af : Array Edge} {g : Option (Nat × Bool)}
theorem ba [Env]{x:Operand}{v:Value}(hx:ev l x=some v):Ev P n ⟨d,.move x,ty,pos,af,g⟩ l L v:=
 fun a w hf _=>by simp only[execOp,Sem.run_pure,hf.ev hx]
theorem uB [Env]{x:Operand}{v:Value}(hx:ev l x=some v):Ev P n ⟨d,.assign x,ty,pos,af,g⟩ l L v:=
 fun a w hf _=>by simp only[execOp,Sem.run_pure,hf.ev hx]
theorem sE [Env]{c x y:Operand}{u:Value}(hc:ev l c=some (.bool true))(hx:ev l x=some u):
  Ev P n ⟨d,.pick c x y,ty,pos,af,g⟩ l L u:=
 fun a w hf _=>by simp[execOp,hf.ev hx,hf.ev hc,asBool]
theorem sD [Env]{c x y:Operand}{v:Value}(hc:ev l c=some (.bool false))(hy:ev l y=some v):
  Ev P n ⟨d,.pick c x y,ty,pos,af,g⟩ l L v:=
 fun a w hf _=>by simp[execOp,hf.ev hy,hf.ev hc,asBool]
theorem fD [Env]{x:Operand}{a0:Addr}(hx:ev l x=some (.pointer (some a0))):Ev P n ⟨d,.nilCheck x,ty,pos,af,g⟩ l L (.pointer (some a0)):=
 fun a w hf _=>by simp[execOp,hf.ev hx]
theorem add_lit(b o k:Nat):(⟨b,o,none⟩:Addr).add k=⟨b,o+k,none⟩:=by
 unfold Addr.add;split
 · rename_i h;subst h;rfl
 · rfl
theorem aT [Env]{s:TypeId}{x:Operand}{f b o k t:Nat}{fs:Array Field}(off:Nat)(hx:ev l x=some (.pointer (some ⟨b,o,none⟩)))
  (hu:P.underlying s=some (.struct fs)) (hf:(fs[f]?).map (fun fd=>(fd.offset,fd.type))=some (off,t)) (hs: ∀w,(sizeOf t).run P w= .ok (k+1) w):
  Ev P n ⟨d,.fieldAddr s x f,ty,pos,af,g⟩ l L (.pointer (some ⟨b,o+off,none⟩)):=
 fun a w Ez _=>by
  obtain⟨fd,h1,h2⟩:=Option.map_eq_some_iff.1 hf;cases h2;simp[execOp,Instr.fieldAt,run_underlying hu,h1,Ez.ev hx,Instr.sureAddr,fieldPlace,hs,add_lit]
theorem nP [Env]{w:World}{L:List ax}{b o:Nat}{vs:List Value}{T:TypeId}{fr:Nat × Nat}{v:Value}(h:Has w L)(hi:In L (so b (.cells vs.toArray T fr)))(hv:vs[o]? =some v):
  w.cell? ⟨b,o,none⟩=some v:=by
 simp[World.cell?,h.obj hi,hv]
theorem bR [Env]{t:TypeId}{x:Operand}{b o:Nat}{vs:List Value}{T:TypeId}{fr:Nat × Nat}{v:Value}(hx:ev l x=some (.pointer (some ⟨b,o,none⟩)))
  (ha: ∀w,(isAgg t).run P w= .ok false w) (hi:In L (so b (.cells vs.toArray T fr))) (hv:vs[o]? =some v):
  Ev P n ⟨d,.load t x,ty,pos,af,g⟩ l L v:=
 fun a w hf hh=>by simp[execOp,Instr.loadAt,hf.ev hx,Instr.sureAddr,loadVar,ha,nP hh hi hv]
theorem ay [Env]{t:TypeId}{x:Operand}{b o k:Nat}{vs:List Value}{T:TypeId}{fr:Nat × Nat}{u:List Value}(hx:ev l x=some (.pointer (some ⟨b,o,none⟩)))
  (ha: ∀w,(isAgg t).run P w= .ok true w) (hs: ∀w,(sizeOf t).run P w= .ok k w) (hi:In L (so b (.cells vs.toArray T fr))) (hv:(vs.drop o).take k=u) (hk:u.length=k):
  Ev P n ⟨d,.load t x,ty,pos,af,g⟩ l L (.agg u.toArray):=by
 intro a w hf hh
 have hl:(loadCells ⟨b,o,none⟩ u.length).run P w= .ok u.toArray w:=by
  refine run_loadCells_list w _ u (fun j v hj=>?_);rw[add_lit];refine nP hh hi ?_;rw[←hv,List.getElem?_take]at hj;split at hj
  · rwa[List.getElem?_drop]at hj
  · cases hj
 rw[hk]at hl;simp[execOp,Instr.loadAt,hf.ev hx,Instr.sureAddr,loadVar,ha,hs,hl]
theorem j4 [Env]{s:TypeId}{x:Operand}{f t:Nat}{fs:Array Field}{cs:List Value}{v:Value}(off:Nat)(hx:ev l x=some (.agg cs.toArray))
  (hu:P.underlying s=some (.struct fs)) (hf:(fs[f]?).map (fun fd=>(fd.offset,fd.type))=some (off,t)) (ha: ∀w,(isAgg t).run P w= .ok false w) (hv:cs[off]? =some v):
  Ev P n ⟨d,.field s x f,ty,pos,af,g⟩ l L v:=
 fun a w Ez _=>by
  obtain⟨fd,h1,h2⟩:=Option.map_eq_some_iff.1 hf;cases h2;simp[execOp,Instr.field,run_underlying hu,h1,Ez.ev hx,asAgg,part,ha,hv]
theorem KT [Env]{s:TypeId}{x:Operand}{f k t:Nat}{fs:Array Field}{cs u:List Value}(off:Nat)(hx:ev l x=some (.agg cs.toArray))
  (hu:P.underlying s=some (.struct fs)) (hf:(fs[f]?).map (fun fd=>(fd.offset,fd.type))=some (off,t)) (ha: ∀w,(isAgg t).run P w= .ok true w) (hs: ∀w,(sizeOf t).run P w= .ok k w)
  (hv:(cs.drop off).take k=u):
  Ev P n ⟨d,.field s x f,ty,pos,af,g⟩ l L (.agg u.toArray):=
 fun a w Ez _=>by
  obtain⟨fd,h1,h2⟩:=Option.map_eq_some_iff.1 hf;cases h2;subst hv;simp[execOp,Instr.field,run_underlying hu,h1,Ez.ev hx,asAgg,part,ha,hs]
theorem uA [Env]{t t':TypeId}{x y:Operand}{k:IntKind}{p q:Int}(hx:ev l x=some (.int k p))(hy:ev l y=some (.int k q)):
  Ev P n ⟨d,.binOp .add t x y t',ty,pos,af,g⟩ l L (.int k (k.wrap (p+q))):=
 fun a w hf _=>by simp[execOp,hf.ev hx,hf.ev hy,eqGuard,binOp,Op.intArith]
theorem Yi [Env]{t t':TypeId}{x y:Operand}{k:IntKind}{p q:Int}(hx:ev l x=some (.int k p))(hy:ev l y=some (.int k q)):
  Ev P n ⟨d,.binOp .sub t x y t',ty,pos,af,g⟩ l L (.int k (k.wrap (p-q))):=
 fun a w hf _=>by simp[execOp,hf.ev hx,hf.ev hy,eqGuard,binOp,Op.intArith]
theorem gS [Env]{t t':TypeId}{x y:Operand}{k:IntKind}{p q:Int}(hx:ev l x=some (.int k p))(hy:ev l y=some (.int k q)):
  Ev P n ⟨d,.binOp .mul t x y t',ty,pos,af,g⟩ l L (.int k (k.wrap (p*q))):=
 fun a w hf _=>by simp[execOp,hf.ev hx,hf.ev hy,eqGuard,binOp,Op.intArith]
theorem ie [Env]{t t':TypeId}{x y:Operand}{k:IntKind}{p q:Int}(hx:ev l x=some (.int k p))(hy:ev l y=some (.int k q))(hq:q≠0):
  Ev P n ⟨d,.binOp .quo t x y t',ty,pos,af,g⟩ l L (.int k (k.wrap (p.tdiv q))):=
 fun a w hf _=>by simp[execOp,hf.ev hx,hf.ev hy,eqGuard,binOp,Op.intDiv,hq]
theorem iH [Env]{t t':TypeId}{x y:Operand}{k:IntKind}{p q:Int}(hx:ev l x=some (.int k p))(hy:ev l y=some (.int k q))(hq:q≠0):
  Ev P n ⟨d,.binOp .rem t x y t',ty,pos,af,g⟩ l L (.int k (p.tmod q)):=
 fun a w hf _=>by simp[execOp,hf.ev hx,hf.ev hy,eqGuard,binOp,Op.intDiv,hq]
def qX(k:IntKind)(p q:Int):Int:=k.wrap (BitVec.ofInt k.bits p&&&BitVec.ofInt k.bits q).toNat
def S3(k:IntKind)(p q:Int):Int:=k.wrap (BitVec.ofInt k.bits p|||BitVec.ofInt k.bits q).toNat
def qD(k:IntKind)(p q:Int):Int:=k.wrap (BitVec.ofInt k.bits p^^^BitVec.ofInt k.bits q).toNat
theorem kR [Env]{t t':TypeId}{x y:Operand}{k:IntKind}{p q:Int}(hx:ev l x=some (.int k p))(hy:ev l y=some (.int k q)):
  Ev P n ⟨d,.binOp .and t x y t',ty,pos,af,g⟩ l L (.int k (qX k p q)):=
 fun a w hf _=>by simp[execOp,hf.ev hx,hf.ev hy,eqGuard,binOp,Op.intBits,qX]
theorem m8 [Env]{t t':TypeId}{x y:Operand}{k:IntKind}{p q:Int}(hx:ev l x=some (.int k p))(hy:ev l y=some (.int k q)):
  Ev P n ⟨d,.binOp .or t x y t',ty,pos,af,g⟩ l L (.int k (S3 k p q)):=
 fun a w hf _=>by simp[execOp,hf.ev hx,hf.ev hy,eqGuard,binOp,Op.intBits,S3]
theorem rk [Env]{t t':TypeId}{x y:Operand}{k:IntKind}{p q:Int}(hx:ev l x=some (.int k p))(hy:ev l y=some (.int k q)):
  Ev P n ⟨d,.binOp .xor t x y t',ty,pos,af,g⟩ l L (.int k (qD k p q)):=
 fun a w hf _=>by simp[execOp,hf.ev hx,hf.ev hy,eqGuard,binOp,Op.intBits,qD]
theorem j5 [Env]{t t':TypeId}{x y:Operand}{k k':IntKind}{p q:Int}(hx:ev l x=some (.int k p))(hy:ev l y=some (.int k' q))(hq:0≤q):
  Ev P n ⟨d,.binOp .shl t x y t',ty,pos,af,g⟩ l L (.int k (k.wrap (p*2^(min q.toNat k.bits)))):=
 fun a w hf _=>by simp[execOp,hf.ev hx,hf.ev hy,eqGuard,binOp,Op.shift,Int.not_lt.2 hq]
theorem iI [Env]{t t':TypeId}{x y:Operand}{k k':IntKind}{p q:Int}(hx:ev l x=some (.int k p))(hy:ev l y=some (.int k' q))(hq:0≤q):
  Ev P n ⟨d,.binOp .shr t x y t',ty,pos,af,g⟩ l L (.int k (p.fdiv (2^(min q.toNat k.bits)))):=
 fun a w hf _=>by simp[execOp,hf.ev hx,hf.ev hy,eqGuard,binOp,Op.shift,Int.not_lt.2 hq]
theorem uC [Env]{t t':TypeId}{x y:Operand}{k:IntKind}{p q:Int}(hx:ev l x=some (.int k p))(hy:ev l y=some (.int k q)):
  Ev P n ⟨d,.binOp .eql t x y t',ty,pos,af,g⟩ l L (.bool (decide (p=q))):=
 fun a w hf _=>by simp[execOp,hf.ev hx,hf.ev hy,eqGuard,binOp,Op.intCmp];rfl
theorem Yh [Env]{t t':TypeId}{x y:Operand}{k:IntKind}{p q:Int}(hx:ev l x=some (.int k p))(hy:ev l y=some (.int k q)):
  Ev P n ⟨d,.binOp .neq t x y t',ty,pos,af,g⟩ l L (.bool (!decide (p=q))):=
 fun a w hf _=>by simp[execOp,hf.ev hx,hf.ev hy,eqGuard,binOp,Op.intCmp];rfl
theorem Oc [Env]{t t':TypeId}{x y:Operand}{k:IntKind}{p q:Int}(hx:ev l x=some (.int k p))(hy:ev l y=some (.int k q)):
  Ev P n ⟨d,.binOp .lss t x y t',ty,pos,af,g⟩ l L (.bool (decide (p<q))):=
 fun a w hf _=>by simp[execOp,hf.ev hx,hf.ev hy,eqGuard,binOp,Op.intCmp]
theorem Yg [Env]{t t':TypeId}{x y:Operand}{k:IntKind}{p q:Int}(hx:ev l x=some (.int k p))(hy:ev l y=some (.int k q)):
  Ev P n ⟨d,.binOp .leq t x y t',ty,pos,af,g⟩ l L (.bool (decide (p≤q))):=
 fun a w hf _=>by simp[execOp,hf.ev hx,hf.ev hy,eqGuard,binOp,Op.intCmp]
theorem Ye [Env]{t t':TypeId}{x y:Operand}{k:IntKind}{p q:Int}(hx:ev l x=some (.int k p))(hy:ev l y=some (.int k q)):
  Ev P n ⟨d,.binOp .gtr t x y t',ty,pos,af,g⟩ l L (.bool (decide (q<p))):=
 fun a w hf _=>by simp[execOp,hf.ev hx,hf.ev hy,eqGuard,binOp,Op.intCmp]
theorem Yd [Env]{t t':TypeId}{x y:Operand}{k:IntKind}{p q:Int}(hx:ev l x=some (.int k p))(hy:ev l y=some (.int k q)):
  Ev P n ⟨d,.binOp .geq t x y t',ty,pos,af,g⟩ l L (.bool (decide (q≤p))):=
 fun a w hf _=>by simp[execOp,hf.ev hx,hf.ev hy,eqGuard,binOp,Op.intCmp]
theorem Tj [Env]{t t':TypeId}{x y:Operand}{p q:ByteArray}(hx:ev l x=some (.string p))(hy:ev l y=some (.string q)):
  Ev P n ⟨d,.binOp .eql t x y t',ty,pos,af,g⟩ l L (.bool (p.toList==q.toList)):=
 fun a w hf _=>by simp[execOp,hf.ev hx,hf.ev hy,eqGuard,binOp,Op.stringOp]
theorem yV{t e:TypeId}(p:Option Addr)(hu:P.underlying t=some (.pointer e))(w:World):(Op.equal t (.pointer p) (.pointer none)).run P w= .ok p.isNone w:=
 run_equal_pointer_nil w t p (by simp[Program.pointee,hu])
theorem eM [Env]{t t' e:TypeId}{x y:Operand}{p:Option Addr}(hx:ev l x=some (.pointer p))(hy:ev l y=some (.pointer none))(hu:P.underlying t=some (.pointer e)):
  Ev P n ⟨d,.binOp .eql t x y t',ty,pos,af,g⟩ l L (.bool p.isNone):=
 fun a w hf _=>by cases p<;>simp[execOp,hf.ev hx,hf.ev hy,eqGuard,binOp,yV _ hu]
theorem dw [Env]{t t' e:TypeId}{x y:Operand}{p:Option Addr}(hx:ev l x=some (.pointer p))(hy:ev l y=some (.pointer none))(hu:P.underlying t=some (.pointer e)):
  Ev P n ⟨d,.binOp .neq t x y t',ty,pos,af,g⟩ l L (.bool p.isSome):=
 fun a w hf _=>by cases p<;>simp[execOp,hf.ev hx,hf.ev hy,eqGuard,binOp,yV _ hu]
theorem G4 [Env]{t:TypeId}{x:Operand}{p:Bool}(hx:ev l x=some (.bool p)):Ev P n ⟨d,.unOp .not t x,ty,pos,af,g⟩ l L (.bool (!p)):=
 fun a w hf _=>by simp[execOp,hf.ev hx,Op.unary]
theorem pr [Env]{t:TypeId}{x:Operand}{k:IntKind}{p:Int}(hx:ev l x=some (.int k p)):Ev P n ⟨d,.unOp .neg t x,ty,pos,af,g⟩ l L (.int k (k.wrap (-p))):=
 fun a w hf _=>by simp[execOp,hf.ev hx,Op.unary,Op.intArith]
theorem Oa [Env]{t:TypeId}{x:Operand}{k:IntKind}{p:Int}(hx:ev l x=some (.int k p)):Ev P n ⟨d,.unOp .xor t x,ty,pos,af,g⟩ l L (.int k (qD k (if k.signed then-1 else k.max) p)):=
 fun a w hf _=>by simp[execOp,hf.ev hx,Op.unary,Op.intBits,qD]
theorem aR [Env]{s t:TypeId}{x:Operand}{k k':IntKind}{p:Int}{ds:TypeDesc}(hx:ev l x=some (.int k p))(hs:P.underlying s=some ds)(ht:P.underlying t=some (.int k')):
  Ev P n ⟨d,.convert s t x,ty,pos,af,g⟩ l L (.int k' (k'.wrap p)):=
 fun a w hf _=>by simp[execOp,hf.ev hx,convert,run_underlying hs,run_underlying ht,Conv.intToInt]
theorem pq [Env]{x:Operand}{t:TypeId}{T e:TypeId}{b:Option Addr}{m c:Nat}(hx:ev l x=some (.slice b m c))(hu:P.underlying T=some (.slice e)):
  Ev P n ⟨d,.call {callee:= .builtin .len,args:= #[x],argTypes:= #[T]},t,pos,af,g⟩ l L (.int .i64 m):=
 fun a w hf _=>by simp[execOp,resolve,invoke,builtin,hf.ev hx,Builtin.len_,run_underlying hu,goInt]
theorem BR [Env]{x:Operand}{t:TypeId}{T:TypeId}{s:ByteArray}(hx:ev l x=some (.string s))(hu:P.underlying T=some .string):
  Ev P n ⟨d,.call {callee:= .builtin .len,args:= #[x],argTypes:= #[T]},t,pos,af,g⟩ l L (.int .i64 s.size):=
 fun a w hf _=>by simp[execOp,resolve,invoke,builtin,hf.ev hx,Builtin.len_,run_underlying hu,goInt]
theorem Tm [Env]{x:Operand}{t:TypeId}{T k e:TypeId}{b c:Nat}{es:Array MapEntry}(hx:ev l x=some (.map (some b)))(hu:P.underlying T=some (.map k e))(hi:In L (so b (.map es c))):
  Ev P n ⟨d,.call {callee:= .builtin .len,args:= #[x],argTypes:= #[T]},t,pos,af,g⟩ l L (.int .i64 es.size):=
 fun a w hf hh=>by simp[execOp,resolve,invoke,builtin,hf.ev hx,Builtin.len_,run_underlying hu,goInt,getObj,Sem.run,hh.obj hi]
theorem mK [Env]{x y:Operand}{t:TypeId}{ts:Array TypeId}{k:IntKind}{p q:Int}(hx:ev l x=some (.int k p))(hy:ev l y=some (.int k q)):
  Ev P n ⟨d,.call {callee:= .builtin .max,args:= #[x,y],argTypes:=ts},t,pos,af,g⟩ l L (.int k (if q>p then q else p)):=
 fun a w hf _=>by simp[execOp,resolve,invoke,builtin,hf.ev hx,hf.ev hy,Builtin.max_,Builtin.max2]
theorem xF [Env]{x y:Operand}{t:TypeId}{ts:Array TypeId}{k:IntKind}{p q:Int}(hx:ev l x=some (.int k p))(hy:ev l y=some (.int k q)):
  Ev P n ⟨d,.call {callee:= .builtin .min,args:= #[x,y],argTypes:=ts},t,pos,af,g⟩ l L (.int k (if q<p then q else p)):=
 fun a w hf _=>by simp[execOp,resolve,invoke,builtin,hf.ev hx,hf.ev hy,Builtin.min_,Builtin.min2]
theorem iz [Env]{t e:TypeId}{x y:Operand}{k:IntKind}{b o m c s:Nat}{i:Int}(hx:ev l x=some (.slice (some ⟨b,o,none⟩) m c))(hy:ev l y=some (.int k i))
  (hu:P.underlying t=some (.slice e)) (hs: ∀w,(sizeOf e).run P w= .ok s w) (h0:0≤i) (h1:i<m):
  Ev P n ⟨d,.indexAddr t x y,ty,pos,af,g⟩ l L (.pointer (some ⟨b,o+i.toNat*s,none⟩)):=
 fun a w hf _=>by simp[execOp,Instr.indexAt,asIntOf,hf.ev hx,hf.ev hy,run_underlying hu,hs,h0,h1,add_lit]
theorem dR [Env]{t e:TypeId}{x y:Operand}{k:IntKind}{b o m s:Nat}{i:Int}(hx:ev l x=some (.pointer (some ⟨b,o,none⟩)))(hy:ev l y=some (.int k i))
  (hu:P.underlying t=some (.array m e)) (hs: ∀w,(sizeOf e).run P w= .ok s w) (h0:0≤i) (h1:i<m):
  Ev P n ⟨d,.indexAddr t x y,ty,pos,af,g⟩ l L (.pointer (some ⟨b,o+i.toNat*s,none⟩)):=
 fun a w hf _=>by simp[execOp,Instr.indexAt,Instr.sureAddr,asIntOf,hf.ev hx,hf.ev hy,run_underlying hu,hs,h0,h1,add_lit]
theorem Yf [Env]{t:TypeId}{x y:Operand}{k:IntKind}{i:Int}{s:ByteArray}{u:UInt8}(hx:ev l x=some (.string s))(hy:ev l y=some (.int k i))
  (hu:P.underlying t=some .string) (h0:0≤i) (h1:s[i.toNat]? =some u):
  Ev P n ⟨d,.index t x y,ty,pos,af,g⟩ l L (.int .u8 u.toNat):=
 fun a w hf _=>by simp[execOp,Instr.index,asIntOf,hf.ev hx,hf.ev hy,run_underlying hu,h0,h1]
theorem wP [Env]{t e:TypeId}{x y:Operand}{k:IntKind}{m:Nat}{i:Int}{cs:List Value}{v:Value}(hx:ev l x=some (.agg cs.toArray))(hy:ev l y=some (.int k i))
  (hu:P.underlying t=some (.array m e)) (ha: ∀w,(isAgg e).run P w= .ok false w) (hs: ∀w,(sizeOf e).run P w= .ok 1 w) (h0:0≤i) (h1:i<m) (hv:cs[i.toNat]? =some v):
  Ev P n ⟨d,.index t x y,ty,pos,af,g⟩ l L v:=
 fun a w hf _=>by simp[execOp,Instr.index,asIntOf,hf.ev hx,hf.ev hy,run_underlying hu,h0,h1,part,ha,hs,hv]
theorem iJ [Env]{t e:TypeId}{x:Operand}{b o m s:Nat}(hx:ev l x=some (.pointer (some ⟨b,o,none⟩)))(hu:P.underlying t=some (.array m e))(hs: ∀w,(sizeOf e).run P w= .ok s w):
  Ev P n ⟨d,.slice t x none none none,ty,pos,af,g⟩ l L (.slice (some ⟨b,o,none⟩) m m):=
 fun a w hf _=>by simp[execOp,Instr.sliceAt,Instr.sureAddr,hf.ev hx,run_underlying hu,hs,Instr.sliceBounds,Addr.add]
theorem Tn [Env]{t e:TypeId}{x y:Operand}{b o m s:Nat}{k:IntKind}{h:Int}(hx:ev l x=some (.pointer (some ⟨b,o,none⟩)))(hy:ev l y=some (.int k h))(hu:P.underlying t=some (.array m e))(hs: ∀w,(sizeOf e).run P w= .ok s w)
  (h0:0≤h) (h1:h≤m):
  Ev P n ⟨d,.slice t x none (some y) none,ty,pos,af,g⟩ l L (.slice (some ⟨b,o,none⟩) h.toNat m):=
 fun a w hf _=>by simp[execOp,Instr.sliceAt,Instr.sureAddr,hf.ev hx,hf.ev hy,run_underlying hu,hs,Instr.sliceBounds,run_sliceBound,h0,h1,Addr.add]
theorem cV [Env]{x:Operand}{vs:List Value}{i:Nat}{v:Value}(hx:ev l x=some (.tuple vs.toArray))(hv:vs[i]? =some v):
  Ev P n ⟨d,.extract x i,ty,pos,af,g⟩ l L v:=
 fun a w hf _=>by simp[execOp,hf.ev hx,Instr.extract,hv]
theorem lE [Env]{f:Fn}{c:Array Operand}{vs:Array Value}(hx: ∀a:Act,Fr n l a→c.map a.eval=vs):
  Ev P n ⟨d,.makeFunc f #[] c,ty,pos,af,g⟩ l L (.func f #[] vs):=
 fun a w hf _=>by simp[execOp,Instr.makeFunc,hx a hf]
theorem dW [Env]{t:TypeId}{x:Operand}{v:Value}(hx:ev l x=some v)(hu:P.concrete t=true):
  Ev P n ⟨d,.makeInterface t x,ty,pos,af,g⟩ l L (.iface t v):=
 fun a w hf _=>by simp[execOp,hf.ev hx,run_makeInterface _ t v hu]
end
end Go.Sl
namespace Go.Sl
def Sy [Env](P:Program)(ops:Array Oper)(n:Nat)(rest:List Oper)(Q:Exit→Act→World→Prop)(l:List (Nat × Value))(L:List ax):Prop:=
 ∀a w,Fr n l a→Has w L→wpList P ops Q rest a w
def Sc [Env](P:Program)(n:Nat)(c:Code)(Q:Exit→Act→World→Prop)(l:List (Nat × Value))(L:List ax):Prop:=
 ∀a w,Fr n l a→Has w L→c.wp P Q a w
def Sk [Env](n:Nat)(K:Act→World→Prop)(l:List (Nat × Value))(L:List ax):Prop:=
 ∀a w,Fr n l a→Has w L→K a w
section
variable {P : Program} {ops : Array Oper} {n : Nat} {rest : List Oper} {Q : Exit → Act → World → Prop} {l : List (Nat × Value)} {L : List ax}
variable {d : Tmp} {op : Op} {ty : TypeId} {pos : String} {af : Array Edge}
theorem g5{o:Oper}{a:Act}{w:World}(hg:o.guard=none)(h:o.wp P a w (wpList P ops Q rest) Q):wpList P ops Q (o::rest) a w:=by
 unfold wpList;rw[if_pos (by simp[Region.wanted,hg])];exact .inl h
theorem y [Env]{v:Value}(he:Ev P n ⟨some d,op,ty,pos,af,none⟩ l L v)(hd:Nat.blt d n=true)
  (k:Sy P ops n rest Q ((d,v)::l) L):Sy P ops n (⟨some d,op,ty,pos,af,none⟩::rest) Q l L:=by
 intro a w hf hh;refine g5 rfl ?_;unfold Oper.wp;rw[he a w hf hh];exact k _ w (hf.put hd v) hh
def cB(ops:Array Oper)(j:Nat):Option Tmp:=(ops[j]?).bind (·.dst)
theorem eA{a:Act}{j t:Nat}{b:Bool}(hj:cB ops j=some t)(hf:Fr n l a)(hl:look l t=some (.bool b)):yielded ops a.tmps j=some b:=by
 unfold cB at hj;have h:=hf.get t _ hl;unfold yielded;rw[hj];simp only[Option.bind_some];cases hc:a.tmps[t]? with
 |none=>
  have hle:=Array.getElem?_eq_none_iff.1 hc;simp[Nat.not_lt.2 hle,undef]at h
 |some u=>
  have:u= .bool b:=by
   obtain⟨h1,h2⟩:=Array.getElem?_eq_some_iff.1 hc;simp[Array.getD,h1,h2]at h;exact h
  simp[this]
theorem yg1 [Env]{dd:Option Tmp}{j t:Nat}{b:Bool}(hj:cB ops j=some t)(hl:look l t=some (.bool b))
  (k:Sy P ops n (⟨dd,op,ty,pos,af,none⟩::rest) Q l L):Sy P ops n (⟨dd,op,ty,pos,af,some (j,b)⟩::rest) Q l L:=by
 intro a w hf hh;have h:=k a w hf hh;unfold wpList at h ⊢;rw[if_pos (by simp[Region.wanted])]at h;rw[if_pos (by simp[Region.wanted,eA hj hf hl])];rcases h with h|h
 ·exact .inl h
 ·exact .inr h
theorem yg0 [Env]{j t:Nat}{b c:Bool}(hj:cB ops j=some t)(hl:look l t=some (.bool b))(hb:(b==c)=false)(hd:Nat.blt d n=true)
  (k:Sy P ops n rest Q ((d,undef)::l) L):Sy P ops n (⟨some d,op,ty,pos,af,some (j,c)⟩::rest) Q l L:=by
 intro a w hf hh;unfold wpList;rw[if_neg (by simp[Region.wanted,eA hj hf hl];intro e;subst e;simp at hb)];exact k _ w (hf.put hd undef) hh
theorem kr{a:Act}{j t:Nat}(hj:cB ops j=some t)(hf:Fr n l a)(hl:look l t=some undef):yielded ops a.tmps j=none:=by
 unfold cB at hj;have h:=hf.get t _ hl;unfold yielded;rw[hj];simp only[Option.bind_some];cases hc:a.tmps[t]? with
 |none=>rfl
 |some u=>
  have:u=undef:=by
   obtain⟨h1,h2⟩:=Array.getElem?_eq_some_iff.1 hc;simp[Array.getD,h1,h2]at h;exact h
  subst this;rfl
theorem adA [Env]{j t:Nat}{c:Bool}(hj:cB ops j=some t)(hl:look l t=some undef)(hd:Nat.blt d n=true)
  (k:Sy P ops n rest Q ((d,undef)::l) L):Sy P ops n (⟨some d,op,ty,pos,af,some (j,c)⟩::rest) Q l L:=by
 intro a w hf hh;unfold wpList;rw[if_neg (by simp[Region.wanted,kr hj hf hl])];exact k _ w (hf.put hd undef) hh
theorem adB [Env]{rest:List Oper}(t:Nat){b:Bool}(hl:look l t=some (.bool b))(h1:b=true→Sy P ops n rest Q ((t,.bool true)::l) L)(h0:b=false→Sy P ops n rest Q ((t,.bool false)::l) L):
  Sy P ops n rest Q l L:=by
 intro a w hf hh
 have same: ∀c:Bool,b=c→Fr n ((t,.bool c)::l) a:=by
  rintro c rfl;refine⟨hf.size,hf.defers,fun u v hu=>?_⟩
  by_cases e:Nat.beq t u=true
  ·have:t=u:=by simpa using e
   subst this;simp only[look,e,cond_true]at hu;exact hf.get t v (hl.trans hu)
  ·simp only[look,e,cond_false]at hu;exact hf.get u v hu
 cases b
 ·exact h0 rfl a w (same false rfl) hh
 ·exact h1 rfl a w (same true rfl) hh
theorem nJ [Env](k:Sk n (Q .normal) l L):Sy P ops n [] Q l L:=fun a w hf hh=>k a w hf hh
theorem iS [Env]{x z:Code}(h: ∀K:Act→World→Prop,(∀l L,Sc P n z Q l L→Sk n K l L)→Sc P n x (Exit.then K Q) l L):Sc P n (.seq x z) Q l L:=
 fun a w hf hh=>wp_seq (h (z.wp P Q) (fun _ _ h=>h) a w hf hh)
theorem uq [Env]{id:Nat}{os:List Oper}(h:Sy P os.toArray n os Q l L):Sc P n (.region id os.toArray false) Q l L:=
 fun a w hf hh=>wp_region_lit (h a w hf hh)
theorem aet [Env]{c:Operand}{x z:Code}{b:Bool}(hc:ev l c=some (.bool b))(h1:b=true→Sc P n x Q l L)(h0:b=false→Sc P n z Q l L):Sc P n (.cond c x z) Q l L:=
 fun a w hf hh=>wp_cond_split (hf.ev hc) (fun e=>h1 e a w hf hh) (fun e=>h0 e a w hf hh)
theorem dE [Env](k:Sk n (Q .normal) l L):Sc P n .skip Q l L:=fun a w hf hh=>wp_skip (k a w hf hh)
theorem jZ [Env]{id:Nat}{c:Code}(h:Sc P n c (Exit.inBlock id Q) l L):Sc P n (.block id c) Q l L:=fun a w hf hh=>wp_block (h a w hf hh)
theorem vg [Env]{id:Nat}(k:Sk n (Q (.exit id)) l L):Sc P n (.exit id) Q l L:=fun a w hf hh=>wp_exit (k a w hf hh)
theorem qE [Env](k:Sk n (Q .ret) l L):Sc P n .ret Q l L:=fun a w hf hh=>wp_ret (k a w hf hh)
theorem zH [Env]{c:Code}{l':List (Nat × Value)}{L':List ax}(hl:sub l l')(hL:Ge L L')(h:Sc P n c Q l' L'):Sc P n c Q l L:=
 fun a w hf hh=>h a w (hf.sub hl) (hL.has hh)
theorem aV [Env]{K:Act→World→Prop}{l':List (Nat × Value)}{L':List ax}(hl:sub l l')(hL:Ge L L')(h:Sk n K l' L'):Sk n K l L:=
 fun a w hf hh=>h a w (hf.sub hl) (hL.has hh)
theorem Ax [Env]{A:Type}{c:Code}(F:A→List (Nat × Value))(M:A→List ax)(I:A→Prop)(μ:A→Nat)(x0:A)(h0:I x0)(hl:sub l (F x0))(hL:Ge L (M x0))
  (round: ∀x,I x→ ∀K:Act→World→Prop,(∀z,I z→μ z<μ x→ ∀l' L',sub l' (F z)→Ge L' (M z)→Sk n K l' L')→Sc P n c (Exit.then K Q) (F x) (M x)):
  Sc P n (.loop c) Q l L:=by
 intro a w hf hh b k cs
 have key: ∀m,∀x,μ x=m→I x→ ∀a w,Fr n (F x) a→Has w (M x)→
   ∃e a' w',Q e a' w'∧Arrives P (lone (b.at a (.code c:: .inLoop c::k)) cs w) b k cs e a' w':=by
  intro m
  induction m using Nat.strongRecOn with
  |_ m ih=>
   intro x hx hI a w hf hh
   obtain⟨e,aaa,aab,hq,Ep⟩:=round x hI (fun a w=> ∃z,I z∧μ z<μ x∧Fr n (F z) a∧Has w (M z))
    (fun z hz EH l' L' h1 h2 a w hf hh=>⟨z,hz,EH,hf.sub h1,h2.has hh⟩) a w hf hh b (.inLoop c::k) cs
   cases e with
   |normal=>
    obtain⟨z,hz,EH,hfz,hhz⟩:=hq;obtain⟨anV,am8,atw,agH,TM⟩:=ih (μ z) (hx▸EH) z rfl hz aaa aab hfz hhz;exact⟨anV,am8,atw,agH,.of_steps (Steps.trans Ep (.one step_inLoop)) TM⟩
   |exit id=>exact⟨_,aaa,aab,hq,.pass (x:= .inLoop c) rfl (fun _ _=> .inl (by simp)) Ep⟩
   |goto id=>exact⟨_,aaa,aab,hq,.pass (x:= .inLoop c) rfl (fun _ _=> .inl (by simp)) Ep⟩
   |ret=>exact⟨_,aaa,aab,hq,.pass (x:= .inLoop c) rfl (fun _ _=> .inl (by simp)) Ep⟩
   |panic ch=>exact⟨_,aaa,aab,hq,.pass (x:= .inLoop c) rfl (fun _ _=> .inl (by simp)) Ep⟩
   |outgrown=>exact⟨_,aaa,aab,hq,.pass (x:= .inLoop c) rfl (fun _ _=> .inl (by simp)) Ep⟩
 obtain⟨e,a',w',hq,Ep⟩:=key _ x0 rfl h0 a w (hf.sub hl) (hL.has hh);exact⟨e,a',w',hq,.of_steps (.one step_loop) Ep⟩
end
end Go.Sl
namespace Go.Sl
theorem Has.setRow [Env]{w:World}{L L':List ax}{b:Nat}{vs vs':List Value}{T:TypeId}(h:Has w L)(r:Rp L (sc b vs T) (sc b vs' T) L'):Has (w.setRow b vs'.toArray) L':=by
 obtain⟨M,h1,h2⟩:=r.pk;have hh:=h1.has h;have hb:w.heap[b]? =some (.cells vs.toArray T (0,0)):=hh.mem (b,_) (by simp[sc]);refine h2.back ⟨h.env,?_,?_⟩
 ·intro x hx;have oJ:=hh.nd;simp only[sc,List.flatten_cons,List.cons_append,List.nil_append,List.mem_cons,List.map_cons,List.nodup_cons]at hx oJ;rcases hx with rfl|hx
  ·exact setRow_heap w b _ _ _ _ hb
  ·have xY:x.1≠b:=fun e=>oJ.1 (List.mem_map.2 ⟨x,hx,e⟩)
   rw[setRow_other w b x.1 _ xY];exact hh.mem x (by simp[sc,hx])
 ·simpa[sc]using hh.nd
theorem Pk.in{L L':List ax}{s:ax}(h:Pk L s L'):In L s:=by
 induction h with
 |z=>exact .z
 |s _ ih=>exact .s ih
abbrev Sv:=Option (Nat × Nat × List Value)
def aG:Sv→Nat→Value
 |none,_=> .slice none 0 0
 |some (b,cap,_),m=> .slice (some ⟨b,0,none⟩) m cap
def aD:Sv→TypeId→List Value→ax
 |none,_,_=>[]
 |some (b,_,sp),e,xs=>sc b (xs++sp) e
def bW:Sv→Nat→Nat→List Value→Prop
 |none,m,_,xs=>m=0∧xs=[]
 |some (_,cap,sp),m,s,xs=>m≤cap∧cap≤maxLen∧xs.length=m*s∧(xs++sp).length=cap*s
theorem bW.len{s:Sv}{m k:Nat}{xs:List Value}(h:bW s m k xs):xs.length=m*k:=by
 cases s with
 |none=>obtain⟨rfl,rfl⟩:=h;simp
 |some p=>exact h.2.2.1
def Src [Env](P:Program)(L:List ax)(size:Nat)(x:Value)(m:Nat)(us:List Value):Prop:=
 us.length=m*size∧ ∀w,Has w L→(Builtin.lenOf x).run P w= .ok m w∧(Builtin.firstCells size m x).run P w= .ok us.toArray w
theorem cz [Env]{P:Program}{L:List ax}{size b o m c:Nat}{vs us:List Value}{T:TypeId}{fr:Nat × Nat}(hi:In L (so b (.cells vs.toArray T fr)))(hu:(vs.drop o).take (m*size)=us)(hl:us.length=m*size):
  Src P L size (.slice (some ⟨b,o,none⟩) m c) m us:=by
 refine⟨hl,fun w hh=>⟨by simp[Builtin.lenOf],?_⟩⟩;refine run_firstCells_some w size m _ m c us hl (fun j v hj=>?_);rw[add_lit];refine nP hh hi ?_;rw[←hu,List.getElem?_take]at hj;split at hj
 ·rwa[List.getElem?_drop]at hj
 ·cases hj
theorem C3 [Env]{P:Program}{L:List ax}{size:Nat}:Src P L size (.slice none 0 0) 0 []:=
 ⟨by simp,fun w _=>⟨by simp[Builtin.lenOf],by simp[Builtin.firstCells]⟩⟩
theorem Vz [Env]{P:Program}{L:List ax}{s:ByteArray}:Src P L 1 (.string s) s.size (s.data.toList.map fun b=> .int .u8 b.toNat):=by
 refine⟨by simp,fun w _=>⟨by simp[Builtin.lenOf],?_⟩⟩;have:s.extract 0 s.size=s:=by simp
 simp[Builtin.firstCells,this];rw[←Array.toList_inj];simp
theorem rQ [Env]{P:Program}{L:List ax}{s:Sv}{e:TypeId}{size m:Nat}{xs:List Value}(hi:In L (aD s e xs))(cq:bW s m size xs):Src P L size (aG s m) m xs:=by
 cases s with
 |none=>obtain⟨rfl,rfl⟩:=cq;exact C3
 |some p=>exact cz hi (by simp[←cq.2.2.1]) cq.2.2.1
theorem Ah [Env]{P:Program}{w:World}{L M:List ax}{s:Sv}{e t xT ty:TypeId}{i:TypeInfo}{z x:Value}{size m k:Nat}{xs us:List Value}
  (hh:Has w L) (hp:Pk L (aD s e xs) M)
  (ht:P.underlying t=some (.slice e)) {dx:TypeDesc} (hx:P.underlying xT=some dx) (tY: ∀q,dx≠ .int q) (hi:P.info? e=some i) (hz:i.zero=some z)
  (EM:i.size=size) (LI:z.cells.size=size) (cq:bW s m size xs)
  (zZ:Src P L size x k us) (h1: ∀u∈us,u.oneCell'=true) (zU:(m+k)*(i.bytes+1)≤140737488355328):
  ∃s' w',(Builtin.append_ #[t,xT] ty #[aG s m,x]).run P w= .ok (aG s' (m+k)) w'∧bW s' (m+k) size (xs++us)∧Has w' (aD s' e (xs++us)::M):=by
 obtain⟨ZM,ZI⟩:=zZ;have JA:(m+k)≤140737488355328:=Nat.le_trans (Nat.le_mul_of_pos_right _ (by omega)) zU;have Zq:(dx matches .int _)=false:=by cases dx<;>first|rfl|exact absurd rfl (tY _)
 have hlx:(xs++us).length=(m+k)*size:=by rw[List.length_append,cq.len,ZM,Nat.add_mul]
 -- a new block
 have grow: ∀(old:Nat) (base:Option Addr),old<m+k→aG s m= .slice base m old→(Builtin.firstCells size m (aG s m)).run P w.drew= .ok xs.toArray w.drew→
   ∃s' w',(Builtin.append_ #[t,xT] ty #[aG s m,x]).run P w= .ok (aG s' (m+k)) w'∧bW s' (m+k) size (xs++us)∧Has w' (aD s' e (xs++us)::M):=by
  intro old base ho hv OY;have Hl: ¬(9223372036854775807<(m:Int)+(k:Int)):=by omega
  have OF: ¬(281474976710656<Builtin.nextslicecap (m+k) old*i.bytes):=by
   have h2:=growslice_fits (need:=m+k) (old:=old) (bytes:=i.bytes) ho (Nat.le_trans (Nat.mul_le_mul_left _ (by omega)) zU);omega
  have hs2:=(ZI w.drew (hh.drew)).2;have fg:=(ZI w hh).1
  refine⟨some (w.heap.size,grownCap w (m+k) old e,(Builtin.zeroCells z.cells (grownCap w (m+k) old e-(m+k))).toList),
   w.drew.alloc (.cells (xs.toArray++us.toArray++Builtin.zeroCells z.cells (grownCap w (m+k) old e-(m+k))) e),?_,?_,?_⟩
  ·rw[hv]at OY ⊢;simp[Builtin.append_,run_underlying ht,run_underlying hx,sizeOf,typeInfo,zeroValue,hi,hz,EM,Zq,fg,Nat.not_le.2 ho,OF,Hl,Question.forced,hs2,OY,newRow,grownCap,aG];rw[←Array.append_assoc];simp
  ·refine⟨grownCap_ge _ _ _ _,grownCap_le_maxLen _ _ _ _ (by unfold maxLen;omega),hlx,?_⟩;rw[List.length_append,hlx,Array.length_toList,size_zeroCells,LI,←Nat.add_mul];have:=grownCap_ge w (m+k) old e;congr 1;omega
  ·have h3:=((hp.has hh).drew).alloc (.cells (xs.toArray++us.toArray++Builtin.zeroCells z.cells (grownCap w (m+k) old e-(m+k))) e);have h4:=(Ge.pick .z (Ge.drop .refl)).has h3;refine h4.re ?_;simp[so,aD,sc]
 cases s with
 |none=>
  obtain⟨rfl,rfl⟩:=cq
  by_cases hk:k=0
  ·subst hk;have hu0:us=[]:=List.eq_nil_of_length_eq_zero (by simpa using ZM);subst hu0;have fg:=(ZI w hh).1;have hs2:=(ZI w hh).2;refine⟨none,w,?_,⟨rfl,rfl⟩,(hp.has hh).re (by simp[aD])⟩;simp[Builtin.append_,run_underlying ht,run_underlying hx,sizeOf,typeInfo,hi,EM,Zq,fg,hs2,aG]
  ·exact grow 0 none (by omega) rfl (by simp[aG,Builtin.firstCells])
 |some p=>
  obtain⟨b,cap,sp⟩:=p;obtain⟨hmc,B8,yb,zT⟩:=cq;have ee:In L (sc b (xs++sp) e):=hp.in
  by_cases JC:m+k≤cap
  ·have fg:=(ZI w hh).1;have hs2:=(ZI w hh).2;have hg:=hh.cells ee;have ao9:m*size+us.length≤(xs++sp).length:=by rw[zT,ZM,←Nat.add_mul];exact Nat.mul_le_mul_right _ JC
   have gw:=run_storeCells_at P b (m*size) e us 0 (xs++sp).toArray w hg (by simpa using ao9) h1;simp only[Nat.add_zero]at gw;have e1:(xs++sp).take (m*size)=xs:=by rw[←yb];simp
   have e2:(xs++sp).drop (m*size+us.length)=sp.drop us.length:=by rw[←yb];simp[List.drop_append]
   refine⟨some (b,cap,sp.drop us.length),w.setRow b ((xs++us)++sp.drop us.length).toArray,?_,⟨JC,B8,hlx,?_⟩,?_⟩
   ·have e1':List.take (m*size) (xs++sp).toArray.toList=xs:=e1;have e2':List.drop (m*size+us.length) (xs++sp).toArray.toList=sp.drop us.length:=e2;rw[e1',e2']at gw;simp[Builtin.append_,run_underlying ht,run_underlying hx,sizeOf,typeInfo,hi,EM,Zq,fg,hs2,aG,JC,add_lit,gw]
   ·rw[List.length_append,hlx,List.length_drop];rw[List.length_append,yb]at zT;rw[ZM];have h5:(m+k)*size≤cap*size:=Nat.mul_le_mul_right _ JC;rw[Nat.add_mul]at h5 ⊢;omega
   ·exact(hp.has hh).setRow .z
  ·have jt:=(cz (P:=P) (size:=size) (b:=b) (o:=0) (m:=m) (c:=cap) (us:=xs) ee (by simp[←yb]) yb).2 w.drew hh.drew;exact grow cap _ (by omega) rfl jt.2
end Go.Sl
namespace Go.Sl
def Ac [Env](P:Program)(n:Nat)(o:Oper)(l:List (Nat × Value))(L:List ax)(K:Value→List ax→Prop):Prop:=
 ∀a w,Fr n l a→Has w L→ ∃v w' L',((execOp a.eval o).run P w= .ok (.value v) w'∨((execOp a.eval o).run P w= .ok .skip w'∧v=undef))∧K v L'∧Has w' L'
section
variable {P : Program} {ops : Array Oper} {n : Nat} {rest : List Oper} {Q : Exit → Act → World → Prop} {l : List (Nat × Value)} {L : List ax}
variable {d : Tmp} {dd : Option Tmp} {op : Op} {ty : TypeId} {pos : String} {af : Array Edge} {g : Option (Nat × Bool)}
theorem ya [Env]{K:Value→List ax→Prop}(he:Ac P n ⟨some d,op,ty,pos,af,none⟩ l L K)(hd:Nat.blt d n=true)
  (k: ∀v L',K v L'→Sy P ops n rest Q ((d,v)::l) L'):Sy P ops n (⟨some d,op,ty,pos,af,none⟩::rest) Q l L:=by
 intro a w hf hh;refine g5 rfl ?_;unfold Oper.wp;obtain⟨v,w',L',hr|⟨hr,rfl⟩,hk,fU⟩:=he a w hf hh
 ·rw[hr];exact k v L' hk _ w' (hf.put hd v) fU
 ·rw[hr];exact k _ L' hk _ w' (hf.put hd _) fU
theorem Xf [Env]{K:Value→List ax→Prop}(he:Ac P n ⟨none,op,ty,pos,af,none⟩ l L K)
  (k: ∀v L',K v L'→Sy P ops n rest Q l L'):Sy P ops n (⟨none,op,ty,pos,af,none⟩::rest) Q l L:=by
 intro a w hf hh;refine g5 rfl ?_;unfold Oper.wp;obtain⟨v,w',L',hr|⟨hr,rfl⟩,hk,fU⟩:=he a w hf hh
 ·rw[hr];exact k v L' hk _ w' hf fU
 ·rw[hr];exact k _ L' hk _ w' hf fU
def adF(vs:List Value)(T:TypeId)(L:List ax)(v:Value)(L':List ax):Prop:= ∃b,v= .pointer (some ⟨b,0,none⟩)∧L'=sc b vs T::L
theorem aB [Env]{T:TypeId}{z:Value}{vs:List Value}(hz: ∀w,(zeroValue T).run P w= .ok z w)(hv:z.cells=vs.toArray):
  Ac P n ⟨dd,.alloc T,ty,pos,af,g⟩ l L (adF vs T L):=by
 intro a w hf hh;refine⟨_,_,_,.inl (by simp[execOp,Instr.alloc,hz,newVar,newRow,hv];exact⟨rfl,rfl⟩),⟨_,rfl,rfl⟩,?_⟩;exact hh.alloc (.cells vs.toArray T)
theorem a7 [Env]{T:TypeId}{x:Operand}{v:Value}{vs:List Value}(hx:ev l x=some v)(hv:v.cells=vs.toArray):
  Ac P n ⟨dd,.box T x,ty,pos,af,g⟩ l L (adF vs T L):=by
 intro a w hf hh;refine⟨_,_,_,.inl (by simp[execOp,Instr.box,hf.ev hx,newVar,newRow,hv];exact⟨rfl,rfl⟩),⟨_,rfl,rfl⟩,?_⟩;exact hh.alloc (.cells vs.toArray T)
def KTo(L0:List ax)(v:Value)(L':List ax):Prop:=v=undef∧L'=L0
theorem an [Env]{t:TypeId}{x z:Operand}{b o:Nat}{vs vs':List Value}{T:TypeId}{v:Value}{L':List ax}(hx:ev l x=some (.pointer (some ⟨b,o,none⟩)))(hz:ev l z=some v)
  (h1:v.oneCell'=true) (hs: ∀w,(sizeOf t).run P w= .ok 1 w) (r:Rp L (sc b vs T) (sc b vs' T) L') (ho:Nat.blt o vs.length=true) (hv:vs.set o v=vs'):
  Ac P n ⟨dd,.store t x z,ty,pos,af,g⟩ l L (KTo L'):=by
 intro a w hf hh;have ee:In L (sc b vs T):=r.pk.choose_spec.1.in;have hb:=hh.cells ee;have hc:v.cells= #[v]:=by cases v<;>first|rfl|cases h1
 have ho':o<vs.length:=by simpa using ho
 have gw:=run_storeCells_at P b o T [v] 0 vs.toArray w hb (by simp;omega) (by simpa using h1);refine⟨_,_,_,.inr ⟨?_,rfl⟩,⟨rfl,rfl⟩,hh.setRow r⟩
 have e:List.take (o+0) vs.toArray.toList++[v]++List.drop (o+0+[v].length) vs.toArray.toList=vs':=by
  rw[←hv,List.set_eq_take_append_cons_drop,if_pos ho'];simp
 rw[e]at gw;simp[execOp,Instr.storeAt,storeVar,hf.ev hx,hf.ev hz,Instr.sureAddr,hs,hc,gw]
theorem aP [Env]{t:TypeId}{x z:Operand}{b o k:Nat}{vs vs' us:List Value}{T:TypeId}{L':List ax}(hx:ev l x=some (.pointer (some ⟨b,o,none⟩)))(hz:ev l z=some (.agg us.toArray))
  (h1: ∀u∈us,u.oneCell'=true) (hs: ∀w,(sizeOf t).run P w= .ok k w) (r:Rp L (sc b vs T) (sc b vs' T) L') (hk:us.length=k) (ho:o+k≤vs.length) (hv:vs.take o++us++vs.drop (o+k)=vs'):
  Ac P n ⟨dd,.store t x z,ty,pos,af,g⟩ l L (KTo L'):=by
 intro a w hf hh;have ee:In L (sc b vs T):=r.pk.choose_spec.1.in;have hb:=hh.cells ee;have gw:=run_storeCells_at P b o T us 0 vs.toArray w hb (by simpa[hk]using ho) h1;refine⟨_,_,_,.inr ⟨?_,rfl⟩,⟨rfl,rfl⟩,hh.setRow r⟩;have e:List.take (o+0) vs.toArray.toList++us++List.drop (o+0+us.length) vs.toArray.toList=vs':=by rw[←hv,hk];simp
 rw[e]at gw;simp[execOp,Instr.storeAt,storeVar,hf.ev hx,hf.ev hz,Instr.sureAddr,hs,Value.cells,hk,gw]
def zx(e:TypeId)(m size:Nat)(xs:List Value)(L:List ax)(v:Value)(L':List ax):Prop:= ∃s,v=aG s m∧bW s m size xs∧L'=aD s e xs::L
theorem Uj{e:TypeId}{i:TypeInfo}(h: ∀w,(typeInfo e).run P w= .ok i w):P.info? e=some i:=by
 have:=h default;cases hq:P.info? e with
 |none=>simp[typeInfo,hq]at this
 |some j=>simp[typeInfo,hq]at this;rw[this]
theorem aO [Env]{x z:Operand}{s:Sv}{v:Value}{e t xT:TypeId}{i:TypeInfo}{zv:Value}{m k size:Nat}{xs us:List Value}{M:List ax}{dx:TypeDesc}
  (hx:ev l x=some (aG s m)) (hz:ev l z=some v) (hp:Pk L (aD s e xs) M) (ht:P.underlying t=some (.slice e)) (hxt:P.underlying xT=some dx) (tY: ∀q,dx≠ .int q)
  (ry: ∀w,(typeInfo e).run P w= .ok i w) (hzv:i.zero=some zv) (EM:i.size=size) (LI:zv.cells.size=size) (cq:bW s m size xs) (zZ:Src P L size v k us)
  (h1: ∀u∈us,u.oneCell'=true) (zU:(m+k)*(i.bytes+1)≤140737488355328):
  Ac P n ⟨dd,.call {callee:= .builtin .append,args:= #[x,z],argTypes:= #[t,xT]},ty,pos,af,g⟩ l L (zx e (m+k) size (xs++us) M):=by
 intro a w hf hh;obtain⟨s',w',hr,apH,fU⟩:=Ah (ty:=ty) hh hp ht hxt tY (Uj ry) hzv EM LI cq zZ h1 zU;refine⟨_,w',_,.inl ?_,⟨s',rfl,apH,rfl⟩,fU⟩;simp[execOp,resolve,invoke,builtin,hf.ev hx,hf.ev hz,hr]
def KSl(e:TypeId)(m:Nat)(vs:List Value)(L:List ax)(v:Value)(L':List ax):Prop:= ∃b,v= .slice (some ⟨b,0,none⟩) m m∧L'=sc b vs e::L
theorem SW [Env]{x z:Operand}{dT sT e:TypeId}{b o dl dc m k:Nat}{vs vs' us:List Value}{T:TypeId}{v:Value}{L':List ax}
  (hx:ev l x=some (.slice (some ⟨b,o,none⟩) dl dc)) (hz:ev l z=some v) (hu:P.underlying dT=some (.slice e)) (hs: ∀w,(sizeOf e).run P w= .ok 1 w)
  (zZ:Src P L 1 v m us) (h1: ∀u∈us,u.oneCell'=true) (hk:k=min m dl) (r:Rp L (sc b vs T) (sc b vs' T) L') (ho:o+k≤vs.length) (hv:vs.take o++us.take k++vs.drop (o+k)=vs')
  (agG: ∀w,Has w L→(Builtin.firstCells 1 k v).run P w= .ok (us.take k).toArray w):
  Ac P n ⟨dd,.call {callee:= .builtin .copy,args:= #[x,z],argTypes:= #[dT,sT]},ty,pos,af,g⟩ l L (fun v Nk=>v= .int .i64 k∧Nk=L'):=by
 intro a w hf hh;have ee:In L (sc b vs T):=r.pk.choose_spec.1.in;have hb:=hh.cells ee;have hl:(us.take k).length=k:=by rw[List.length_take,zZ.1];omega
 have gw:=run_storeCells_at P b o T (us.take k) 0 vs.toArray w hb (by simpa[hl]using ho) (fun u hu=>h1 u (List.mem_of_mem_take hu));have e:List.take (o+0) vs.toArray.toList++us.take k++List.drop (o+0+(us.take k).length) vs.toArray.toList=vs':=by rw[←hv,hl];simp
 rw[e]at gw;refine⟨_,_,_,.inl ?_,⟨rfl,rfl⟩,hh.setRow r⟩;have h2:=(zZ.2 w hh).1;have h3:=agG w hh;have h4:Nat.min m dl=k:=hk.symm;simp[execOp,resolve,invoke,builtin,hf.ev hx,hf.ev hz,Builtin.copy_,run_underlying hu,hs,h2,h3,h4,gw,goInt]
def bC [Env](P:Program)(f:FuncId)(args:List Value)(pre R:List ax)(post:Value→List ax→Prop):Prop:=
 ∀w,Has w (pre++R)→Calls P f args.toArray w fun e w'=> ∃v L',e= .returned v∧post v L'∧Has w' (L'++R)
def CP [Env](post:Value→List ax→Prop)(R:List ax)(e:Ending)(w':World):Prop:= ∃v L',e= .returned v∧post v L'∧Has w' (L'++R)
def Is(v:Value)(L:List ax)(u:Value)(L':List ax):Prop:=u=v∧L'=L
theorem bC.mono [Env]{f:FuncId}{args:List Value}{pre R:List ax}{post oM:Value→List ax→Prop}(h:bC P f args pre R post)(hp: ∀v L,post v L→oM v L):bC P f args pre R oM:=
 fun w hh=>(h w hh).mono fun _ _ ⟨v,L',h1,h2,h3⟩=>⟨v,L',h1,hp _ _ h2,h3⟩
def Ga(l:List (Nat × Value)):List Operand→Option (List Value)
 | []=>some []
 |x::xs=>match ev l x with
  |some v=>match Ga l xs with
   |some vs=>some (v::vs)
   |none=>none
  |none=>none
theorem mL{a:Act}(hf:Fr n l a): ∀{xs:List Operand} {vs:List Value},Ga l xs=some vs→xs.map a.eval=vs
 | [],vs,h=>by simpa[Ga]using h
 |x::xs,vs,h=>by
  unfold Ga at h;split at h
  ·rename_i v hv
   split at h
   ·rename_i us hus
    cases h;simp[hf.ev hv,mL hf hus]
   ·cases h
  ·cases h
theorem aA [Env]{f:FuncId}{xs:List Operand}{ts:Array TypeId}{args:List Value}{pre R:List ax}{post:Value→List ax→Prop}(hc:bC P f args pre R post)(hx:Ga l xs=some args)
  (bg: ∀(args:Array Value) (w:World),(callFunc f args).run P w= .ok (.enter f args) w) (ht:Tk L pre R) (hd:Nat.blt d n=true)
  (k: ∀v L',post v L'→Sy P ops n rest Q ((d,v)::l) (L'++R)):
  Sy P ops n (⟨some d,.call {callee:= .value (.func f),args:=xs.toArray,argTypes:=ts},ty,pos,af,none⟩::rest) Q l L:=by
 intro a w hf hh;refine g5 rfl ?_;unfold Oper.wp
 have hr:(execOp a.eval (⟨some d,.call {callee:= .value (.func f),args:=xs.toArray,argTypes:=ts},ty,pos,af,none⟩:Oper)).run P w= .ok (.enter f args.toArray) w:=by
  have:=mL hf hx;simp[execOp,resolve,Act.eval,Deferred.ofValue,invoke,bg,this]
 rw[hr,Oper.upon_enter];refine(hc w (ht.has hh)).mono ?_;rintro e w' ⟨v,L',rfl,hp,fU⟩;exact k v L' hp _ w' (hf.put hd v) fU
def qW:Nat→List Value→List (Nat × Value)
 |_,[]=>[]
 |k,v::vs=>(k,v)::qW (k+1) vs
theorem mW: ∀(vs:List Value) (k t:Nat) (v:Value),look (qW k vs) t=some v→k≤t∧vs[t-k]? =some v
 | [],_,_,_,h=>by cases h
 |u::vs,k,t,v,h=>by
  by_cases e:Nat.beq k t=true
  ·simp only[qW,look,e,cond_true]at h;have:k=t:=by simpa using e
   subst this;exact⟨Nat.le_refl _,by simpa using h⟩
  ·simp only[qW,look,e,cond_false]at h;obtain⟨h1,h2⟩:=mW vs (k+1) t v h;refine⟨by omega,?_⟩;rw[show t-k=(t-(k+1))+1 by omega];simpa using h2
theorem ag [Env]{f:FuncId}{fn:Func}{c:Code}{args:List Value}{pre R:List ax}{post:Value→List ax→Prop}(hf:P.funcs[f]? =some fn)(hn:fn.ntmps=n)(hb:fn.body=some c)(hl:Nat.ble args.length n=true)
  (h:Sc P n c (bodyPost P fn (CP post R)) (qW 0 args) (pre++R)):bC P f args pre R post:=by
 intro w hh;have hle:=Nat.le_of_ble_eq_true hl;refine calls_of_wp hf hb (h _ w ?_ hh);have:=ml args.toArray fn.ntmps (by simpa[hn]using hle) (qW 0 args) (fun t v ht=>by have:=(mW args 0 t v ht).2;simpa using this);rw[hn]at this ⊢;exact this
theorem aqg [Env]{fn:Func}{R:List ax}{post:Value→List ax→Prop}{t:Tmp}{v:Value}(hr:fn.results= #[.tmp t])(hl:look l t=some v)(L':List ax)(hp:post v L')(hg:Ge L (L'++R)):
  Sk n (bodyPost P fn (CP post R) .ret) l L:=
 fun a _ hf hh=>⟨hf.defers,v,by rw[results_tmp hr,hf.get t v hl],v,L',rfl,hp,hg.has hh⟩
theorem JN [Env]{fn:Func}{R:List ax}{post:Value→List ax→Prop}{t u:Tmp}{v v':Value}(hr:fn.results= #[.tmp t,.tmp u])(hl:look l t=some v)(EE:look l u=some v')(L':List ax)(hp:post (.tuple #[v,v']) L')(hg:Ge L (L'++R)):
  Sk n (bodyPost P fn (CP post R) .ret) l L:=
 fun a _ hf hh=>⟨hf.defers,.tuple #[v,v'],by rw[results_tmp2 hr,hf.get t v hl,hf.get u v' EE],_,L',rfl,hp,hg.has hh⟩
theorem ahl [Env]{fn:Func}{R:List ax}{post:Value→List ax→Prop}{t u s:Tmp}{v v' v'':Value}(hr:fn.results= #[.tmp t,.tmp u,.tmp s])(hl:look l t=some v)(EE:look l u=some v')(Zm:look l s=some v'')(L':List ax)(hp:post (.tuple #[v,v',v'']) L')(hg:Ge L (L'++R)):
  Sk n (bodyPost P fn (CP post R) .ret) l L:=
 fun a _ hf hh=>⟨hf.defers,.tuple #[v,v',v''],by simp[results,hr,←hf.get t v hl,←hf.get u v' EE,←hf.get s v'' Zm],_,L',rfl,hp,hg.has hh⟩
theorem ahk [Env]{fn:Func}{R:List ax}{post:Value→List ax→Prop}(hr:fn.results= #[])(L':List ax)(hp:post (.tuple #[]) L')(hg:Ge L (L'++R)):
  Sk n (bodyPost P fn (CP post R) .ret) l L:=
 fun _ _ hf hh=>⟨hf.defers,.tuple #[],results_none hr _ _ _,_,L',rfl,hp,hg.has hh⟩
theorem ahh [Env]{fn:Func}{R:List ax}{post:Value→List ax→Prop}(hr:fn.results= #[])(L':List ax)(hp:post (.tuple #[]) L')(hg:Ge L (L'++R)):
  Sk n (bodyPost P fn (CP post R) .normal) l L:=
 fun _ _ hf hh=>⟨hf.defers,.tuple #[],results_none hr _ _ _,_,L',rfl,hp,hg.has hh⟩
end
end Go.Sl
namespace Go.Sl
section
variable {P : Program} {ops : Array Oper} {n : Nat} {rest : List Oper} {Q : Exit → Act → World → Prop} {l : List (Nat × Value)} {L : List ax}
theorem eB [Env]{K:Act→World→Prop}(h:Sk n K l L):Sk n (Exit.then K Q .normal) l L:=h
theorem nZ [Env]{K:Act→World→Prop}{i:Nat}(h:Sk n (Q (.exit i)) l L):Sk n (Exit.then K Q (.exit i)) l L:=h
theorem np [Env]{K:Act→World→Prop}(h:Sk n (Q .ret) l L):Sk n (Exit.then K Q .ret) l L:=h
theorem Na [Env]{i:Nat}(h:Sk n (Q .normal) l L):Sk n (Exit.inBlock i Q .normal) l L:=h
theorem Pt [Env]{i:Nat}(h:Sk n (Q .ret) l L):Sk n (Exit.inBlock i Q .ret) l L:=h
theorem WK [Env]{i:Nat}(h:Sk n (Q .normal) l L):Sk n (Exit.inBlock i Q (.exit i)) l L:=fun a w hf hh=>by simpa[Exit.inBlock]using h a w hf hh
theorem Z7 [Env]{i j:Nat}(Jy:Nat.beq j i=false)(h:Sk n (Q (.exit j)) l L):Sk n (Exit.inBlock i Q (.exit j)) l L:=fun a w hf hh=>by
 have: ¬j=i:=fun e=>by subst e;simp at Jy
 simpa[Exit.inBlock,this]using h a w hf hh
theorem aj [Env]{fn:Func}{R L1:List ax}{post:Value→List ax→Prop}{t:Tmp}{v:Value}(hr:fn.results= #[.tmp t])(hl:look l t=some v)(hg:Ge L L1)(hp: ∃L',post v L'∧L1=L'++R):
  Sk n (bodyPost P fn (CP post R) .ret) l L:=by
 obtain⟨L',h1,rfl⟩:=hp;exact aqg hr hl L' h1 hg
theorem bm [Env]{fn:Func}{R L1:List ax}{post:Value→List ax→Prop}{t u:Tmp}{v v':Value}(hr:fn.results= #[.tmp t,.tmp u])(hl:look l t=some v)(EE:look l u=some v')(hg:Ge L L1)(hp: ∃L',post (.tuple #[v,v']) L'∧L1=L'++R):
  Sk n (bodyPost P fn (CP post R) .ret) l L:=by
 obtain⟨L',h1,rfl⟩:=hp;exact JN hr hl EE L' h1 hg
theorem gl [Env]{fn:Func}{R L1:List ax}{post:Value→List ax→Prop}{t u s:Tmp}{v v' v'':Value}(hr:fn.results= #[.tmp t,.tmp u,.tmp s])(hl:look l t=some v)(EE:look l u=some v')(Zm:look l s=some v'')(hg:Ge L L1)(hp: ∃L',post (.tuple #[v,v',v'']) L'∧L1=L'++R):
  Sk n (bodyPost P fn (CP post R) .ret) l L:=by
 obtain⟨L',h1,rfl⟩:=hp;exact ahl hr hl EE Zm L' h1 hg
theorem bj [Env]{fn:Func}{R L1:List ax}{post:Value→List ax→Prop}(hr:fn.results= #[])(hg:Ge L L1)(hp: ∃L',post (.tuple #[]) L'∧L1=L'++R):
  Sk n (bodyPost P fn (CP post R) .ret) l L:=by
 obtain⟨L',h1,rfl⟩:=hp;exact ahk hr L' h1 hg
theorem aN [Env]{fn:Func}{R L1:List ax}{post:Value→List ax→Prop}(hr:fn.results= #[])(hg:Ge L L1)(hp: ∃L',post (.tuple #[]) L'∧L1=L'++R):
  Sk n (bodyPost P fn (CP post R) .normal) l L:=by
 obtain⟨L',h1,rfl⟩:=hp;exact ahh hr L' h1 hg
end
end Go.Sl
namespace Go.Sl
section
variable {P : Program} {ops : Array Oper} {md : Region.Mode} {Q : Exit → Act → World → Prop} {S : World → Prop}
def uZ(P:Program)(md:Region.Mode)(ops:Array Oper)(Q:Exit→Act→World→Prop)(S:World→Prop)(n:Nat)(Lq:Array Bool→Act→World→Prop):Nat→Array Bool→Act→World→Prop
 |0,aC,a,w=>Lq aC a w
 |f+1,aC,a,w=>Region.ready md ops aC≠[]∧
  ∀i∈Region.ready md ops aC,i<n∧wpOp P ops Q i (fun a' w'=>S w'∧uZ P md ops Q S n Lq f (aC.setIfInBounds i true) a' w') a w
theorem rV{n g:Nat}{Lq:Array Bool→Act→World→Prop}(hL: ∀aC a w,Lq aC a w→wpAny P md ops Q g aC a w):
  ∀(f:Nat) (aC:Array Bool) (a:Act) (w:World),uZ P md ops Q S n Lq f aC a w→wpAny P md ops Q (f+g) aC a w
 |0,aC,a,w,h=>by rw[Nat.zero_add];exact hL _ _ _ h
 |f+1,aC,a,w,h=>by
  rw[show f+1+g=(f+g)+1 by omega];exact⟨fun h0=>absurd h0 h.1,fun i hi=>wpOp_mono (fun a' w' h'=>rV hL f _ a' w' h'.2) (h.2 i hi).2⟩
theorem tU{n i:Nat}{oi:Oper}{v:Value}{Lq:Array Bool→Act→World→Prop}(hi:ops[i]? =some oi)(ig: ∀(j:Nat) (o:Oper) cs b,ops[j]? =some o→o.op≠ .select cs b)
  (hs:Region.sinkB md ops n=true) (hc:Region.chainB md ops n=true) (hn:n≤ops.size) (ee:i<n) (hQ: ∀c a w,Q (.panic c) (a.put oi.dst v) w→Q (.panic c) a w)
  (OW: ∀aC a w,Lq aC a w→ ∀j∈Region.ready md ops aC,n≤j):
  ∀(f:Nat) (aC:Array Bool) (a:Act) (w:World),HeadInv md ops n aC→
   (∀j oj,ops[j]? =some oj→j≠i→aC.getD j true=false→(∀e∈oj.after,Region.binds md e=true→e.on≠i)→oi.apart ops oj=true)→
   i∈Region.ready md ops aC→YieldsIf P ops S oi v a→S w→
   uZ P md ops Q S n Lq f (aC.setIfInBounds i true) (a.put oi.dst v) w→uZ P md ops Q S n Lq (f+1) aC a w:=by
 have tw: ∀(aC:Array Bool),HeadInv md ops n aC→i∈Region.ready md ops aC→ ∀j∈Region.ready md ops aC,j<n:=by
  intro aC inv hr j hj;have JG:=(mem_ready.1 hr).1;have hjs:j<ops.size:=by obtain⟨_,oj,JB,_⟩:=mem_ready.1 hj;exact(Array.getElem?_eq_some_iff.1 JB).1
  rcases Nat.lt_or_ge j n with h|h
  ·exact h
  ·exact absurd hj (tail_waits hs hc (by omega) inv _ i rfl ee JG j h)
 intro f
 induction f with
 |zero=>
  intro aC a w inv _ hr hy hS H;refine⟨fun h=>(by rw[h]at hr;cases hr),fun j hj=>?_⟩;have TW:=tw aC inv hr j hj;refine⟨TW,?_⟩
  by_cases ED:j=i
  ·subst ED;exact hy.wpOp hi hS ⟨hS,H⟩
  ·have:=OW _ _ _ H j (ready_mono hj ED);omega
 |succ f ih=>
  intro aC a w inv EA hr hy hS H;have JG:=(mem_ready.1 hr).1;refine⟨fun h=>(by rw[h]at hr;cases hr),fun j hj=>?_⟩;have TW:=tw aC inv hr j hj;refine⟨TW,?_⟩
  by_cases ED:j=i
  ·subst ED;exact hy.wpOp hi hS ⟨hS,H⟩
  ·have h1:=(H.2 j (ready_mono hj ED)).2;obtain⟨O0,oj,JB,lQ⟩:=mem_ready.1 hj
   have Zw: ∀e∈oj.after,Region.binds md e=true→e.on≠i:=fun e he hb heq=>by
    have h1:=lQ e he hb;rw[heq,getD_both JG]at h1;cases h1
   have h2:=wpOp_putIf JB (EA j oj JB ED O0 Zw) (fun cs b=>ig i oi cs b hi) (fun cs b=>ig j oj cs b JB) hQ hy h1
   have Hz: ∀k ok,ops[k]? =some ok→k≠i→(aC.setIfInBounds j true).getD k true=false→
     (∀e∈ok.after,Region.binds md e=true→e.on≠i)→oi.apart ops ok=true:=fun k ok hk hki JG eF=>by
    refine EA k ok hk hki ?_ eF
    by_cases M0:j=k
    ·subst M0;exact O0
    ·rw[getD_set_ne true M0]at JG;exact JG
   refine wpOp_mono (fun a' w' h3=>⟨h3.2.1,ih (aC.setIfInBounds j true) a' w' (inv.set hj TW) Hz (ready_mono hr (Ne.symm ED)) h3.1 h3.2.1 ?_⟩) h2;rw[Array.setIfInBounds_comm _ _ ED];exact h3.2.2
def rW(P:Program)(ops:Array Oper)(Q:Exit→Act→World→Prop)(S:World→Prop)(K:Act→World→Prop):List (Nat × Bool)→Act→World→Prop
 | [],a,w=>K a w
 |(i,true)::π,a,w=> ∃oi v,ops[i]? =some oi∧YieldsIf P ops S oi v a∧rW P ops Q S K π (a.put oi.dst v) w
 |(i,false)::π,a,w=>wpOp P ops Q i (fun a' w'=>S w'∧rW P ops Q S K π a' w') a w
def TR(md:Region.Mode)(ops:Array Oper)(n:Nat):List (Nat × Bool)→Array Bool→Bool
 | [],aC=>Region.seqB md ops (ops.size-n) n aC
 |(i,true)::π,aC=>(Region.ready md ops aC).contains i&&Region.free md ops aC i&&decide (i<n)&&TR md ops n π (aC.setIfInBounds i true)
 |(i,false)::π,aC=>decide (Region.ready md ops aC=[i])&&decide (i<n)&&TR md ops n π (aC.setIfInBounds i true)
def Lr(ops:Array Oper)(n:Nat)(π:List (Nat × Bool)):Bool:=
 Region.noSelect ops&&decide (n≤ops.size)&&decide (π.length=n)&&Region.sinkB .any ops n&&Region.chainB .any ops n&&TR .any ops n π (Array.replicate ops.size false)
theorem u4{n:Nat}{K:Act→World→Prop}(ig:Region.noSelect ops=true)(hs:Region.sinkB md ops n=true)(hc:Region.chainB md ops n=true)(hn:n≤ops.size)
  (hQ: ∀c a w,¬Q (.panic c) a w):
  ∀(π:List (Nat × Bool)) (aC:Array Bool) (a:Act) (w:World),HeadInv md ops n aC→TR md ops n π aC=true→S w→rW P ops Q S K π a w→
  uZ P md ops Q S n (fun lr a' w'=>Region.seqB md ops (ops.size-n) n lr=true∧K a' w') π.length aC a w
 | [],aC,a,w,_,hB,_,h=>⟨hB,h⟩
 |(i,true)::π,aC,a,w,inv,hB,hS,h=>by
  simp only[TR,Bool.and_eq_true,decide_eq_true_eq]at hB;obtain⟨⟨⟨hr,hf⟩,ee⟩,Ho⟩:=hB;obtain⟨oi,v,M6,hy,hK⟩:=h;have Ce:i∈Region.ready md ops aC:=by simpa using hr
  exact tU M6 (Region.noSelect_spec ig) hs hc hn ee (fun c a w h=>absurd h (hQ c _ w)) (fun lr a' w' hL=>seqB_ready hL.1) π.length aC a w inv (Region.free_spec M6 hf) Ce hy hS
   (u4 ig hs hc hn hQ π _ _ w (inv.set Ce ee) Ho hS hK)
 |(i,false)::π,aC,a,w,inv,hB,hS,h=>by
  simp only[TR,Bool.and_eq_true,decide_eq_true_eq]at hB;obtain⟨⟨hr,ee⟩,Ho⟩:=hB;have Ce:i∈Region.ready md ops aC:=by rw[hr];simp
  refine⟨by rw[hr];simp,fun j hj=>?_⟩;rw[hr]at hj;have:j=i:=by simpa using hj
  subst this;exact⟨ee,wpOp_mono (fun a' w' h'=>⟨h'.1,u4 ig hs hc hn hQ π _ _ w' (inv.set Ce ee) Ho h'.1 h'.2⟩) h⟩
def F6(Q:Exit→Act→World→Prop):Exit→Act→World→Prop
 | .panic _,_,_=>False
 |e,a,w=>Q e a w
theorem Sb{c:Code}{a:Act}{w:World}(h:c.wp P (F6 Q) a w):c.wp P Q a w:=
 wp_mono h fun e a w h=>by cases e<;>first|exact h|exact h.elim
theorem amQ{id:Nat}{a:Act}{w:World}{os:List Oper}{n:Nat}{π:List (Nat × Bool)}(hm:P.follows .mixedOrders=true)(hB:Lr os.toArray n π=true)(hS:S {w with drawn:=w.drawn+1})
  (h:rW P os.toArray (F6 Q) S (fun a w=>wpList P os.toArray (F6 Q) (os.drop n) a w) π a {w with drawn:=w.drawn+1}):(Code.region id os.toArray true).wp P Q a w:=by
 refine Sb (Q:=Q) ?_;simp only[Lr,Bool.and_eq_true,decide_eq_true_eq]at hB;obtain⟨⟨⟨⟨⟨ig,hn⟩,hl⟩,hs⟩,hc⟩,hB⟩:=hB
 have Pj:HeadInv .any os.toArray n (Array.replicate os.toArray.size false):=by
  refine⟨by simp,fun j oj _ h=>?_,fun t _ ZJ=>?_⟩
  ·rw[getD_replicate_false]at h;cases h
  ·have:t<os.length:=by simpa using ZJ
   simp[this]
 have h1:=u4 (S:=S) (md:= .any) ig hs hc hn (Q:=F6 Q) (fun c a w h=>h) π _ a _ Pj hB hS h;refine wp_region_any hm ?_;have vD:os.toArray.size=π.length+(os.toArray.size-n):=by omega
 rw[vD];rw[←vD];have h2:=rV (g:=os.toArray.size-n) (Q:=F6 Q) (P:=P) (ops:=os.toArray) (md:= .any) (fun aC a w hh=>?_) π.length _ a _ h1
 ·rw[←vD]at h2;exact h2
 ·obtain⟨h3,h4⟩:=hh;have Ls:(os.drop n).length=os.toArray.size-n:=by simp
  have:=wpAny_of_seq (P:=P) (ops:=os.toArray) (Q':=F6 Q) (os.drop n) n aC a w (fun j=>by simp) (by rw[Ls];exact h3) h4
  rwa[Ls]at this
end
section
variable {P : Program} {ops : Array Oper} {n : Nat} {Q : Exit → Act → World → Prop} {l : List (Nat × Value)} {L Lh : List ax} {π : List (Nat × Bool)} {tail : List Oper}
def Sh [Env](P:Program)(ops:Array Oper)(n:Nat)(tail:List Oper)(Q:Exit→Act→World→Prop)(Lh:List ax)(π:List (Nat × Bool))(l:List (Nat × Value))(L:List ax):Prop:=
 ∀a w,Fr n l a→Has w L→rW P ops Q (fun w=>Has w Lh) (fun a w=>wpList P ops Q tail a w) π a w
theorem aS [Env]{id:Nat}{os:List Oper}(m:Nat)(π:List (Nat × Bool))(Lh:List ax)(hm:P.follows .mixedOrders=true)(hB:Lr os.toArray m π=true)(hg:Ge L Lh)
  (h:Sh P os.toArray n (os.drop m) (F6 Q) Lh π l L):Sc P n (.region id os.toArray true) Q l L:=
 fun a w hf hh=>amQ hm hB (hg.has (hh.drawn _)) (h a _ hf (hh.drawn _))
theorem wv [Env](h:Sy P ops n tail Q l L):Sh P ops n tail Q Lh [] l L:=h
theorem xZ [Env](h:Sk n (Q .normal) l L):Sy P ops n [] (F6 Q) l L:=fun a w hf hh=>h a w hf hh
theorem aqf [Env](h:Sk n (Q .normal) l L):Sk n (F6 Q .normal) l L:=h
theorem hr [Env]{i:Nat}{d:Tmp}{op:Op}{ty:TypeId}{pos:String}{af:Array Edge}{v:Value}(ho:ops[i]? =some ⟨some d,op,ty,pos,af,none⟩)(he:Ev P n ⟨some d,op,ty,pos,af,none⟩ l Lh v)(hd:Nat.blt d n=true)
  (k:Sh P ops n tail Q Lh π ((d,v)::l) L):Sh P ops n tail Q Lh ((i,true)::π) l L:=
 fun a w hf hh=>⟨_,v,ho,.inl ⟨by simp[Region.wanted],fun w' JH=>he a w' hf JH⟩,k _ w (hf.put hd v) hh⟩
theorem ko [Env]{i j t:Nat}{b:Bool}{d:Tmp}{op:Op}{ty:TypeId}{pos:String}{af:Array Edge}{v:Value}(ho:ops[i]? =some ⟨some d,op,ty,pos,af,some (j,b)⟩)(hj:cB ops j=some t)(hl:look l t=some (.bool b))
  (he:Ev P n ⟨some d,op,ty,pos,af,some (j,b)⟩ l Lh v) (hd:Nat.blt d n=true)
  (k:Sh P ops n tail Q Lh π ((d,v)::l) L):Sh P ops n tail Q Lh ((i,true)::π) l L:=
 fun a w hf hh=>⟨_,v,ho,.inl ⟨by simp[Region.wanted,eA hj hf hl],fun w' JH=>he a w' hf JH⟩,k _ w (hf.put hd v) hh⟩
theorem EK [Env]{i j t:Nat}{b c:Bool}{d:Tmp}{op:Op}{ty:TypeId}{pos:String}{af:Array Edge}(ho:ops[i]? =some ⟨some d,op,ty,pos,af,some (j,c)⟩)(hj:cB ops j=some t)(hl:look l t=some (.bool b))(hb:(b==c)=false)(hd:Nat.blt d n=true)
  (k:Sh P ops n tail Q Lh π ((d,undef)::l) L):Sh P ops n tail Q Lh ((i,true)::π) l L:=
 fun a w hf hh=>⟨_,undef,ho,.inr ⟨by simp[Region.wanted,eA hj hf hl];intro e;subst e;simp at hb,rfl⟩,k _ w (hf.put hd undef) hh⟩
theorem ZH [Env](t:Nat){b:Bool}(hl:look l t=some (.bool b))(h1:b=true→Sh P ops n tail Q Lh π ((t,.bool true)::l) L)(h0:b=false→Sh P ops n tail Q Lh π ((t,.bool false)::l) L):
  Sh P ops n tail Q Lh π l L:=by
 intro a w hf hh
 have same: ∀c:Bool,b=c→Fr n ((t,.bool c)::l) a:=by
  rintro c rfl;refine⟨hf.size,hf.defers,fun u v hu=>?_⟩
  by_cases e:Nat.beq t u=true
  ·have:t=u:=by simpa using e
   subst this;simp only[look,e,cond_true]at hu;exact hf.get t v (hl.trans hu)
  ·simp only[look,e,cond_false]at hu;exact hf.get u v hu
 cases b
 ·exact h0 rfl a w (same false rfl) hh
 ·exact h1 rfl a w (same true rfl) hh
theorem ha [Env]{i:Nat}{d:Tmp}{op:Op}{ty:TypeId}{pos:String}{af:Array Edge}{K:Value→List ax→Prop}(ho:ops[i]? =some ⟨some d,op,ty,pos,af,none⟩)(he:Ac P n ⟨some d,op,ty,pos,af,none⟩ l L K)(hd:Nat.blt d n=true)
  (k: ∀v L',K v L'→Ge L' Lh∧Sh P ops n tail Q Lh π ((d,v)::l) L'):Sh P ops n tail Q Lh ((i,false)::π) l L:=by
 intro a w hf hh;unfold rW wpOp;simp only[ho];rw[if_pos (by simp[Region.wanted])];refine .inl ?_;unfold Oper.wp;obtain⟨v,w',L',hr|⟨hr,rfl⟩,hk,fU⟩:=he a w hf hh
 ·rw[hr];exact⟨(k v L' hk).1.has fU,(k v L' hk).2 _ w' (hf.put hd v) fU⟩
 ·rw[hr];exact⟨(k _ L' hk).1.has fU,(k _ L' hk).2 _ w' (hf.put hd _) fU⟩
theorem ha1 [Env]{i j t:Nat}{b:Bool}{d:Tmp}{op:Op}{ty:TypeId}{pos:String}{af:Array Edge}{K:Value→List ax→Prop}(ho:ops[i]? =some ⟨some d,op,ty,pos,af,some (j,b)⟩)(hj:cB ops j=some t)(hl:look l t=some (.bool b))
  (he:Ac P n ⟨some d,op,ty,pos,af,some (j,b)⟩ l L K) (hd:Nat.blt d n=true)
  (k: ∀v L',K v L'→Ge L' Lh∧Sh P ops n tail Q Lh π ((d,v)::l) L'):Sh P ops n tail Q Lh ((i,false)::π) l L:=by
 intro a w hf hh;unfold rW wpOp;simp only[ho];rw[if_pos (by simp[Region.wanted,eA hj hf hl])];refine .inl ?_;unfold Oper.wp;obtain⟨v,w',L',hr|⟨hr,rfl⟩,hk,fU⟩:=he a w hf hh
 ·rw[hr];exact⟨(k v L' hk).1.has fU,(k v L' hk).2 _ w' (hf.put hd v) fU⟩
 ·rw[hr];exact⟨(k _ L' hk).1.has fU,(k _ L' hk).2 _ w' (hf.put hd _) fU⟩
theorem bg [Env]{i:Nat}{d:Tmp}{ty:TypeId}{pos:String}{af:Array Edge}{f:FuncId}{xs:List Operand}{ts:Array TypeId}{args:List Value}{pre R:List ax}{post:Value→List ax→Prop}
  (ho:ops[i]? =some ⟨some d,.call {callee:= .value (.func f),args:=xs.toArray,argTypes:=ts},ty,pos,af,none⟩) (hc:bC P f args pre R post) (hx:Ga l xs=some args)
  (bg: ∀(args:Array Value) (w:World),(callFunc f args).run P w= .ok (.enter f args) w) (ht:Tk L pre R) (hd:Nat.blt d n=true)
  (k: ∀v L',post v L'→Ge (L'++R) Lh∧Sh P ops n tail Q Lh π ((d,v)::l) (L'++R)):Sh P ops n tail Q Lh ((i,false)::π) l L:=by
 intro a w hf hh;unfold rW wpOp;simp only[ho];rw[if_pos (by simp[Region.wanted])];refine .inl ?_;unfold Oper.wp
 have hr:(execOp a.eval (⟨some d,.call {callee:= .value (.func f),args:=xs.toArray,argTypes:=ts},ty,pos,af,none⟩:Oper)).run P w= .ok (.enter f args.toArray) w:=by
  have:=mL hf hx;simp[execOp,resolve,Act.eval,Deferred.ofValue,invoke,bg,this]
 rw[hr,Oper.upon_enter];refine(hc w (ht.has hh)).mono ?_;rintro e w' ⟨v,L',rfl,hp,fU⟩;exact⟨(k v L' hp).1.has fU,(k v L' hp).2 _ w' (hf.put hd v) fU⟩
theorem fk [Env]{i j t:Nat}{b:Bool}{d:Tmp}{ty:TypeId}{pos:String}{af:Array Edge}{f:FuncId}{xs:List Operand}{ts:Array TypeId}{args:List Value}{pre R:List ax}{post:Value→List ax→Prop}
  (ho:ops[i]? =some ⟨some d,.call {callee:= .value (.func f),args:=xs.toArray,argTypes:=ts},ty,pos,af,some (j,b)⟩) (hj:cB ops j=some t) (hl:look l t=some (.bool b)) (hc:bC P f args pre R post) (hx:Ga l xs=some args)
  (bg: ∀(args:Array Value) (w:World),(callFunc f args).run P w= .ok (.enter f args) w) (ht:Tk L pre R) (hd:Nat.blt d n=true)
  (k: ∀v L',post v L'→Ge (L'++R) Lh∧Sh P ops n tail Q Lh π ((d,v)::l) (L'++R)):Sh P ops n tail Q Lh ((i,false)::π) l L:=by
 intro a w hf hh;unfold rW wpOp;simp only[ho];rw[if_pos (by simp[Region.wanted,eA hj hf hl])];refine .inl ?_;unfold Oper.wp
 have hr:(execOp a.eval (⟨some d,.call {callee:= .value (.func f),args:=xs.toArray,argTypes:=ts},ty,pos,af,some (j,b)⟩:Oper)).run P w= .ok (.enter f args.toArray) w:=by
  have:=mL hf hx;simp[execOp,resolve,Act.eval,Deferred.ofValue,invoke,bg,this]
 rw[hr,Oper.upon_enter];refine(hc w (ht.has hh)).mono ?_;rintro e w' ⟨v,L',rfl,hp,fU⟩;exact⟨(k v L' hp).1.has fU,(k v L' hp).2 _ w' (hf.put hd v) fU⟩
theorem lF [Env]{i j t:Nat}{b c:Bool}{d:Tmp}{op:Op}{ty:TypeId}{pos:String}{af:Array Edge}(ho:ops[i]? =some ⟨some d,op,ty,pos,af,some (j,c)⟩)(hj:cB ops j=some t)(hl:look l t=some (.bool b))(hb:(b==c)=false)(hd:Nat.blt d n=true)(hg:Ge L Lh)
  (k:Sh P ops n tail Q Lh π ((d,undef)::l) L):Sh P ops n tail Q Lh ((i,false)::π) l L:=by
 intro a w hf hh;unfold rW wpOp;simp only[ho];rw[if_neg (by simp[Region.wanted,eA hj hf hl];intro e;subst e;simp at hb)];exact⟨hg.has hh,k _ w (hf.put hd undef) hh⟩
theorem apL [Env]{i j t:Nat}{c:Bool}{d:Tmp}{op:Op}{ty:TypeId}{pos:String}{af:Array Edge}(ho:ops[i]? =some ⟨some d,op,ty,pos,af,some (j,c)⟩)(hj:cB ops j=some t)(hl:look l t=some undef)(hd:Nat.blt d n=true)
  (k:Sh P ops n tail Q Lh π ((d,undef)::l) L):Sh P ops n tail Q Lh ((i,true)::π) l L:=
 fun a w hf hh=>⟨_,undef,ho,.inr ⟨by simp[Region.wanted,kr hj hf hl],rfl⟩,k _ w (hf.put hd undef) hh⟩
theorem afT [Env]{i j t:Nat}{c:Bool}{d:Tmp}{op:Op}{ty:TypeId}{pos:String}{af:Array Edge}(ho:ops[i]? =some ⟨some d,op,ty,pos,af,some (j,c)⟩)(hj:cB ops j=some t)(hl:look l t=some undef)(hd:Nat.blt d n=true)(hg:Ge L Lh)
  (k:Sh P ops n tail Q Lh π ((d,undef)::l) L):Sh P ops n tail Q Lh ((i,false)::π) l L:=by
 intro a w hf hh;unfold rW wpOp;simp only[ho];rw[if_neg (by simp[Region.wanted,kr hj hf hl])];exact⟨hg.has hh,k _ w (hf.put hd undef) hh⟩
end
theorem ae{L R}(h:Ge L R:=by repeat first|exact .refl|exact .nil|exact .z|apply Pk.s|refine Ge.e ?_|apply Ge.pick|apply Ge.drop):Ge L R:=h
theorem aL{L R}(h:In L R:=by repeat first|exact .z|apply In.s):In L R:=h
theorem aZ{L T R}(h:Tk L T R:=by repeat first|exact .nil|exact .z|apply Pk.s|apply Tk.cons):Tk L T R:=h
theorem bc{L S T R}(h:Rp L S T R:=by repeat first|exact .z|apply Rp.s):Rp L S T R:=h
theorem aq{L R}(h:sub L R:=by repeat first|exact VG|refine FP rfl ?_|refine MC rfl (by simp) ?_):sub L R:=h
theorem ymv [Env]{P:Program}{ops:Array Oper}{n:Nat}{rest:List Oper}{Q:Exit→Act→World→Prop}{l:List (Nat × Value)}{L:List ax}{d:Tmp}{ty:TypeId}{pos:String}{af:Array Edge}{x:Operand}{v:Value}(k:Sy P ops n rest Q ((d,v)::l) L)(hx:ev l x=some v:=by exact rfl)(hd:Nat.blt d n=true:=by exact rfl):Sy P ops n (⟨some d,.move x,ty,pos,af,none⟩::rest) Q l L:=y (ba hx) hd k
theorem yas [Env]{P:Program}{ops:Array Oper}{n:Nat}{rest:List Oper}{Q:Exit→Act→World→Prop}{l:List (Nat × Value)}{L:List ax}{d:Tmp}{ty:TypeId}{pos:String}{af:Array Edge}{x:Operand}{v:Value}(k:Sy P ops n rest Q ((d,v)::l) L)(hx:ev l x=some v:=by exact rfl)(hd:Nat.blt d n=true:=by exact rfl):Sy P ops n (⟨some d,.assign x,ty,pos,af,none⟩::rest) Q l L:=y (uB hx) hd k
theorem ypa [Env]{P:Program}{ops:Array Oper}{n:Nat}{rest:List Oper}{Q:Exit→Act→World→Prop}{l:List (Nat × Value)}{L:List ax}{d:Tmp}{ty:TypeId}{pos:String}{af:Array Edge}{c x z:Operand}{v:Value}(k:Sy P ops n rest Q ((d,v)::l) L)(hc:ev l c=some (.bool true):=by exact rfl)(hx:ev l x=some v:=by exact rfl)(hd:Nat.blt d n=true:=by exact rfl):Sy P ops n (⟨some d,.pick c x z,ty,pos,af,none⟩::rest) Q l L:=y (sE hc hx) hd k
theorem ypb [Env]{P:Program}{ops:Array Oper}{n:Nat}{rest:List Oper}{Q:Exit→Act→World→Prop}{l:List (Nat × Value)}{L:List ax}{d:Tmp}{ty:TypeId}{pos:String}{af:Array Edge}{c x z:Operand}{v:Value}(k:Sy P ops n rest Q ((d,v)::l) L)(hc:ev l c=some (.bool false):=by exact rfl)(hx:ev l z=some v:=by exact rfl)(hd:Nat.blt d n=true:=by exact rfl):Sy P ops n (⟨some d,.pick c x z,ty,pos,af,none⟩::rest) Q l L:=y (sD hc hx) hd k
theorem yxt [Env]{P:Program}{ops:Array Oper}{n:Nat}{rest:List Oper}{Q:Exit→Act→World→Prop}{l:List (Nat × Value)}{L:List ax}{d:Tmp}{ty:TypeId}{pos:String}{af:Array Edge}{x:Operand}{vs:List Value}{i:Nat}{v:Value}(k:Sy P ops n rest Q ((d,v)::l) L)(hx:ev l x=some (.tuple vs.toArray):=by exact rfl)(hv:vs[i]? =some v:=by exact rfl)(hd:Nat.blt d n=true:=by exact rfl):Sy P ops n (⟨some d,.extract x i,ty,pos,af,none⟩::rest) Q l L:=y (cV hx hv) hd k
theorem yni [Env]{P:Program}{ops:Array Oper}{n:Nat}{rest:List Oper}{Q:Exit→Act→World→Prop}{l:List (Nat × Value)}{L:List ax}{d:Tmp}{ty:TypeId}{pos:String}{af:Array Edge}{x:Operand}{a0:Addr}(k:Sy P ops n rest Q ((d,.pointer (some a0))::l) L)(hx:ev l x=some (.pointer (some a0)):=by exact rfl)(hd:Nat.blt d n=true:=by exact rfl):Sy P ops n (⟨some d,.nilCheck x,ty,pos,af,none⟩::rest) Q l L:=y (fD hx) hd k
theorem ygz [Env]{P:Program}{ops:Array Oper}{n:Nat}{rest:List Oper}{Q:Exit→Act→World→Prop}{l:List (Nat × Value)}{L:List ax}{d:Tmp}{op:Op}{ty:TypeId}{pos:String}{af:Array Edge}{j t:Nat}{b c:Bool}(k:Sy P ops n rest Q ((d,undef)::l) L)(hj:cB ops j=some t:=by exact rfl)(hl:look l t=some (.bool b):=by exact rfl)(hb:(b==c)=false:=by exact rfl)(hd:Nat.blt d n=true:=by exact rfl):Sy P ops n (⟨some d,op,ty,pos,af,some (j,c)⟩::rest) Q l L:=yg0 hj hl hb hd k
theorem bV [Env]{P:Program}{ops:Array Oper}{n:Nat}{rest:List Oper}{Q:Exit→Act→World→Prop}{l:List (Nat × Value)}{L:List ax}{op:Op}{ty:TypeId}{pos:String}{af:Array Edge}{dd:Option Tmp}{j t:Nat}{b:Bool}(k:Sy P ops n (⟨dd,op,ty,pos,af,none⟩::rest) Q l L)(hj:cB ops j=some t:=by exact rfl)(hl:look l t=some (.bool b):=by exact rfl):Sy P ops n (⟨dd,op,ty,pos,af,some (j,b)⟩::rest) Q l L:=yg1 hj hl k
end Go.Sl