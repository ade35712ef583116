/- A part of the proof. -/
import Derived.Test.YtlignadmmopdmaaGreatGC
import Derived.Test.YtlignadmmopdmaaGreatProg
set_option linter.unusedVariables false
set_option linter.unusedSimpArgs false
set_option linter.constructorNameAsVariable false
namespace Go.Sl
inductive Sq(P:Program)(z:Code)(Q:Exit→Act→World→Prop):Exit→Act→World→Prop
 |mk {e:Exit} {a:Act} {w:World} (h:Exit.then (z.wp P Q) Q e a w):Sq P z Q e a w
inductive Bq(i:Nat)(Q:Exit→Act→World→Prop):Exit→Act→World→Prop
 |mk {e:Exit} {a:Act} {w:World} (h:Exit.inBlock i Q e a w):Bq i Q e a w
inductive Tq(K:Act→World→Prop)(Q:Exit→Act→World→Prop):Exit→Act→World→Prop
 |mk {e:Exit} {a:Act} {w:World} (h:Exit.then K Q e a w):Tq K Q e a w
inductive Cb:Bool→Code→Code→Code→Prop
 |t {x z:Code}:Cb true x z x
 |f {x z:Code}:Cb false x z z
inductive St
 |y (ops:Array Oper) (os:List Oper) (Q:Exit→Act→World→Prop) (l:List (Nat × Value)) (L:List ax)
 |h (ops:Array Oper) (tail:List Oper) (Q:Exit→Act→World→Prop) (Lh:List ax) (π:List (Nat × Bool)) (l:List (Nat × Value)) (L:List ax)
 |c (c:Code) (Q:Exit→Act→World→Prop) (l:List (Nat × Value)) (L:List ax)
 |k (K:Act→World→Prop) (l:List (Nat × Value)) (L:List ax)
def St.den [Env](P:Program)(n:Nat):St→Prop
 | .y ops os Q l L=>Sy P ops n os Q l L
 | .h ops tail Q Lh π l L=>Sh P ops n tail Q Lh π l L
 | .c x Q l L=>Sc P n x Q l L
 | .k K l L=>Sk n K l L
def gSu(ops:Array Oper)(l:List (Nat × Value)):Option (Nat × Bool)→Option Bool
 |none=>some true
 |some (j,c)=>match cB ops j with
  |none=>none
  |some t=>match look l t with
   |some (.bool b)=>some (b==c)
   |some (.tuple ⟨[]⟩)=>some false
   |_=>none
inductive Rd [Env](P:Program)(n:Nat):Nat→St→Prop→Prop
 |yo {k:Nat} {ops:Array Oper} {d:Tmp} {op:Op} {ty:TypeId} {pos:String} {af:Array Edge} {g:Option (Nat × Bool)} {os:List Oper} {Q:Exit→Act→World→Prop} {l:List (Nat × Value)} {L:List ax} {on:Bool} {v:Value} {B:Prop}
  (hg:gSu ops l g=some on) (he:EO P l L on op v) (hd:Nat.blt d n=true) (r:Rd P n k (.y ops os Q ((d,v)::l) L) B):Rd P n (k+1) (.y ops (⟨some d,op,ty,pos,af,g⟩::os) Q l L) B
 |yz {k:Nat} {ops:Array Oper} {Q:Exit→Act→World→Prop} {l:List (Nat × Value)} {L:List ax} {B:Prop} (r:Rd P n k (.k (Q .normal) l L) B):Rd P n (k+1) (.y ops [] Q l L) B
 |ho {k i:Nat} {ops:Array Oper} {tail:List Oper} {d:Tmp} {op:Op} {ty:TypeId} {pos:String} {af:Array Edge} {g:Option (Nat × Bool)} {Q:Exit→Act→World→Prop} {π:List (Nat × Bool)} {l:List (Nat × Value)} {L Lh:List ax} {on:Bool} {v:Value} {B:Prop}
  (ho:ops[i]? =some ⟨some d,op,ty,pos,af,g⟩) (hg:gSu ops l g=some on) (he:EO P l Lh on op v) (hd:Nat.blt d n=true) (r:Rd P n k (.h ops tail Q Lh π ((d,v)::l) L) B):Rd P n (k+1) (.h ops tail Q Lh ((i,true)::π) l L) B
 |hz {k:Nat} {ops:Array Oper} {tail:List Oper} {Q:Exit→Act→World→Prop} {l:List (Nat × Value)} {L Lh:List ax} {B:Prop} (r:Rd P n k (.y ops tail Q l L) B):Rd P n (k+1) (.h ops tail Q Lh [] l L) B
 |sr {k id:Nat} {os:List Oper} {z:Code} {Q:Exit→Act→World→Prop} {l:List (Nat × Value)} {L:List ax} {B:Prop} (r:Rd P n k (.y os.toArray os (Sq P z Q) l L) B):Rd P n (k+1) (.c (.seq (.region id os.toArray false) z) Q l L) B
 |sc {k:Nat} {x z:Code} {Q:Exit→Act→World→Prop} {l:List (Nat × Value)} {L:List ax} {B:Prop} (r:Rd P n k (.c x (Sq P z Q) l L) B):Rd P n (k+1) (.c (.seq x z) Q l L) B
 |rg {k id:Nat} {os:List Oper} {Q:Exit→Act→World→Prop} {l:List (Nat × Value)} {L:List ax} {B:Prop} (r:Rd P n k (.y os.toArray os Q l L) B):Rd P n (k+1) (.c (.region id os.toArray false) Q l L) B
 |cd {k:Nat} {c:Operand} {x z y:Code} {b:Bool} {Q:Exit→Act→World→Prop} {l:List (Nat × Value)} {L:List ax} {B:Prop} (hc:ev l c=some (.bool b)) (hb:Cb b x z y) (r:Rd P n k (.c y Q l L) B):Rd P n (k+1) (.c (.cond c x z) Q l L) B
 |bl {k i:Nat} {x:Code} {Q:Exit→Act→World→Prop} {l:List (Nat × Value)} {L:List ax} {B:Prop} (r:Rd P n k (.c x (Bq i Q) l L) B):Rd P n (k+1) (.c (.block i x) Q l L) B
 |sk {k:Nat} {Q:Exit→Act→World→Prop} {l:List (Nat × Value)} {L:List ax} {B:Prop} (r:Rd P n k (.k (Q .normal) l L) B):Rd P n (k+1) (.c .skip Q l L) B
 |rt {k:Nat} {Q:Exit→Act→World→Prop} {l:List (Nat × Value)} {L:List ax} {B:Prop} (r:Rd P n k (.k (Q .ret) l L) B):Rd P n (k+1) (.c .ret Q l L) B
 |ex {k i:Nat} {Q:Exit→Act→World→Prop} {l:List (Nat × Value)} {L:List ax} {B:Prop} (r:Rd P n k (.k (Q (.exit i)) l L) B):Rd P n (k+1) (.c (.exit i) Q l L) B
 |qn {k:Nat} {z:Code} {Q:Exit→Act→World→Prop} {l:List (Nat × Value)} {L:List ax} {B:Prop} (r:Rd P n k (.c z Q l L) B):Rd P n (k+1) (.k (Sq P z Q .normal) l L) B
 |qr {k:Nat} {z:Code} {Q:Exit→Act→World→Prop} {l:List (Nat × Value)} {L:List ax} {B:Prop} (r:Rd P n k (.k (Q .ret) l L) B):Rd P n (k+1) (.k (Sq P z Q .ret) l L) B
 |qx {k i:Nat} {z:Code} {Q:Exit→Act→World→Prop} {l:List (Nat × Value)} {L:List ax} {B:Prop} (r:Rd P n k (.k (Q (.exit i)) l L) B):Rd P n (k+1) (.k (Sq P z Q (.exit i)) l L) B
 |bn {k i:Nat} {Q:Exit→Act→World→Prop} {l:List (Nat × Value)} {L:List ax} {B:Prop} (r:Rd P n k (.k (Q .normal) l L) B):Rd P n (k+1) (.k (Bq i Q .normal) l L) B
 |br {k i:Nat} {Q:Exit→Act→World→Prop} {l:List (Nat × Value)} {L:List ax} {B:Prop} (r:Rd P n k (.k (Q .ret) l L) B):Rd P n (k+1) (.k (Bq i Q .ret) l L) B
 |bx {k i:Nat} {Q:Exit→Act→World→Prop} {l:List (Nat × Value)} {L:List ax} {B:Prop} (r:Rd P n k (.k (Q .normal) l L) B):Rd P n (k+1) (.k (Bq i Q (.exit i)) l L) B
 |bp {k i j:Nat} {Q:Exit→Act→World→Prop} {l:List (Nat × Value)} {L:List ax} {B:Prop} (Jy:Nat.beq j i=false) (r:Rd P n k (.k (Q (.exit j)) l L) B):Rd P n (k+1) (.k (Bq i Q (.exit j)) l L) B
 |tn {k:Nat} {K:Act→World→Prop} {Q:Exit→Act→World→Prop} {l:List (Nat × Value)} {L:List ax} {B:Prop} (r:Rd P n k (.k K l L) B):Rd P n (k+1) (.k (Tq K Q .normal) l L) B
 |tr {k:Nat} {K:Act→World→Prop} {Q:Exit→Act→World→Prop} {l:List (Nat × Value)} {L:List ax} {B:Prop} (r:Rd P n k (.k (Q .ret) l L) B):Rd P n (k+1) (.k (Tq K Q .ret) l L) B
 |tx {k i:Nat} {K:Act→World→Prop} {Q:Exit→Act→World→Prop} {l:List (Nat × Value)} {L:List ax} {B:Prop} (r:Rd P n k (.k (Q (.exit i)) l L) B):Rd P n (k+1) (.k (Tq K Q (.exit i)) l L) B
 |nn {k:Nat} {Q:Exit→Act→World→Prop} {l:List (Nat × Value)} {L:List ax} {B:Prop} (r:Rd P n k (.k (Q .normal) l L) B):Rd P n (k+1) (.k (F6 Q .normal) l L) B
 |zy {ops:Array Oper} {os:List Oper} {Q:Exit→Act→World→Prop} {l:List (Nat × Value)} {L:List ax}:Rd P n 0 (.y ops os Q l L) (Sy P ops n os Q l L)
 |zc {c:Code} {Q:Exit→Act→World→Prop} {l:List (Nat × Value)} {L:List ax}:Rd P n 0 (.c c Q l L) (Sc P n c Q l L)
 |zk {K:Act→World→Prop} {l:List (Nat × Value)} {L:List ax}:Rd P n 0 (.k K l L) (Sk n K l L)
 |zh {ops:Array Oper} {tail:List Oper} {Q:Exit→Act→World→Prop} {Lh:List ax} {π:List (Nat × Bool)} {l:List (Nat × Value)} {L:List ax}:Rd P n 0 (.h ops tail Q Lh π l L) (Sh P ops n tail Q Lh π l L)
theorem BW{ops:Array Oper}{l:List (Nat × Value)}{j:Nat}{c on:Bool}(h:gSu ops l (some (j,c))=some on): ∃t,cB ops j=some t∧((∃b,look l t=some (.bool b)∧on=(b==c))∨(look l t=some undef∧on=false)):=by
 unfold gSu at h;dsimp only at h;split at h
 ·cases h
 ·rename_i t ht
  refine⟨t,ht,?_⟩;split at h
  ·rename_i b hb
   exact .inl ⟨b,hb,(Option.some.inj h).symm⟩
  ·rename_i hb
   exact .inr ⟨hb,(Option.some.inj h).symm⟩
  ·cases h
theorem sqm [Env]{P:Program}{n:Nat}{c:Code}{Q Q':Exit→Act→World→Prop}{l:List (Nat × Value)}{L:List ax}(h:Sc P n c Q l L)(hq: ∀e a w,Q e a w→Q' e a w):Sc P n c Q' l L:=fun a w hf hh=>wp_mono (h a w hf hh) hq
theorem Rd.sound [Env]{P:Program}{n k:Nat}{s:St}{B:Prop}(h:Rd P n k s B)(q:B):s.den P n:=by
 induction h with
 |yo hg he hd r ih=>
  rename_i g _ _ _ _ on _ _
  have ih:Sy P _ n _ _ _ _:=ih q;cases he with
  |t he=>
   match g,hg with
   |none,_=>exact y he.ev hd ih
   |some (j,c),hg=>
    obtain⟨t,h1,⟨b,h2,h3⟩|⟨h2,h3⟩⟩:=BW hg
    ·have Y7:b=c:=eq_of_beq h3.symm;subst Y7;exact yg1 h1 h2 (y he.ev hd ih)
    ·cases h3
  |f=>
   match g,hg with
   |some (j,c),hg=>
    obtain⟨t,h1,⟨b,h2,h3⟩|⟨h2,h3⟩⟩:=BW hg
    ·exact yg0 h1 h2 h3.symm hd ih
    ·exact adA h1 h2 hd ih
 |yz r ih=>exact nJ (ih q)
 |ho ho hg he hd r ih=>
  rename_i g _ _ _ _ _ on _ _
  have ih:Sh P _ n _ _ _ _ _ _:=ih q;cases he with
  |t he=>
   match g,hg,ho with
   |none,_,ho=>exact hr ho he.ev hd ih
   |some (j,c),hg,ho=>
    obtain⟨t,h1,⟨b,h2,h3⟩|⟨h2,h3⟩⟩:=BW hg
    ·have Y7:b=c:=eq_of_beq h3.symm;subst Y7;exact ko ho h1 h2 he.ev hd ih
    ·cases h3
  |f=>
   match g,hg,ho with
   |some (j,c),hg,ho=>
    obtain⟨t,h1,⟨b,h2,h3⟩|⟨h2,h3⟩⟩:=BW hg
    ·exact EK ho h1 h2 h3.symm hd ih
    ·exact apL ho h1 h2 hd ih
 |hz r ih=>exact wv (ih q)
 |sr r ih=>intro a w hf hh;exact wp_seq (wp_mono (wp_region_lit (ih q a w hf hh)) (fun e a w h=>by cases h with|mk h=>exact h))
 |sc r ih=>intro a w hf hh;exact wp_seq (wp_mono (ih q a w hf hh) (fun e a w h=>by cases h with|mk h=>exact h))
 |rg r ih=>exact uq (ih q)
 |cd hc hb r ih=>
  cases hb with
  |t=>exact pg hc (ih q)
  |f=>exact kN hc (ih q)
 |bl r ih=>exact jZ (sqm (ih q) (fun e a w h=>by cases h with|mk h=>exact h))
 |sk r ih=>exact dE (ih q)
 |rt r ih=>exact qE (ih q)
 |ex r ih=>exact vg (ih q)
 |qn r ih=>exact fun a w hf hh=> .mk (ih q a w hf hh)
 |qr r ih=>exact fun a w hf hh=> .mk (np (ih q) a w hf hh)
 |qx r ih=>exact fun a w hf hh=> .mk (nZ (ih q) a w hf hh)
 |bn r ih=>exact fun a w hf hh=> .mk (Na (ih q) a w hf hh)
 |br r ih=>exact fun a w hf hh=> .mk (Pt (ih q) a w hf hh)
 |bx r ih=>exact fun a w hf hh=> .mk (WK (ih q) a w hf hh)
 |bp Jy r ih=>exact fun a w hf hh=> .mk (Z7 Jy (ih q) a w hf hh)
 |tn r ih=>exact fun a w hf hh=> .mk (eB (ih q) a w hf hh)
 |tr r ih=>exact fun a w hf hh=> .mk (np (ih q) a w hf hh)
 |tx r ih=>exact fun a w hf hh=> .mk (nZ (ih q) a w hf hh)
 |nn r ih=>exact aqf (ih q)
 |zy=>exact q
 |zc=>exact q
 |zk=>exact q
 |zh=>exact q
section
variable {P : Program} {n : Nat} {Q : Exit → Act → World → Prop} {l : List (Nat × Value)} {L Lh : List ax} {B : Prop}
theorem gc [Env]{c:Code}(k:Nat)(q:B)(h:Rd P n k (.c c Q l L) B:=by repeat constructor):Sc P n c Q l L:=h.sound q
theorem gy [Env]{ops:Array Oper}{os:List Oper}(k:Nat)(q:B)(h:Rd P n k (.y ops os Q l L) B:=by repeat constructor):Sy P ops n os Q l L:=h.sound q
theorem gh [Env]{ops:Array Oper}{tail:List Oper}{π:List (Nat × Bool)}(k:Nat)(q:B)(h:Rd P n k (.h ops tail Q Lh π l L) B:=by repeat constructor):Sh P ops n tail Q Lh π l L:=h.sound q
theorem bq [Env]{x z:Code}(h: ∀K:Act→World→Prop,(∀l L,Sc P n z Q l L→Sk n K l L)→Sc P n x (Tq K Q) l L):Sc P n (.seq x z) Q l L:=
 iS fun K hK=>sqm (h K hK) (fun _ _ _ h=>by cases h with|mk h=>exact h)
theorem bO [Env]{A:Type}{c:Code}(F:A→List (Nat × Value))(M:A→List ax)(I:A→Prop)(μ:A→Nat)(x0:A)(h0:I x0)(hl:sub l (F x0))(hL:Ge L (M x0))
  (round: ∀x,I x→ ∀K:Act→World→Prop,(∀z,I z→μ z<μ x→ ∀l' L',sub l' (F z)→Ge L' (M z)→Sk n K l' L')→Sc P n c (Tq K Q) (F x) (M x)):
  Sc P n (.loop c) Q l L:=
 Ax F M I μ x0 h0 hl hL fun x hx K hK=>sqm (round x hx K hK) (fun _ _ _ h=>by cases h with|mk h=>exact h)
class Nb(b:Bool)(p q:outParam Prop):Prop where
 t:b=true→p
 f:b=false→q
instance (priority:=10){b:Bool}:Nb b (b=true) (b=false):=⟨id,id⟩
instance (priority:=500){p:Prop} [Decidable p]:Nb (decide p) p (¬p):=⟨of_decide_eq_true,of_decide_eq_false⟩
instance {b:Bool}{i:Decidable (b=true)}:Nb (@decide (b=true) i) (b=true) (b=false):=⟨of_decide_eq_true,fun h=>Bool.eq_false_iff.2 (of_decide_eq_false h)⟩
instance {b:Bool}{i:Decidable (b=false)}:Nb (@decide (b=false) i) (b=false) (b=true):=⟨of_decide_eq_true,fun h=>by have:=of_decide_eq_false h;cases b<;>simp_all⟩
instance {α:Type} [BEq α] [LawfulBEq α]{a b:α}:Nb (a==b) (a=b) (¬a=b):=⟨eq_of_beq,fun h e=>by subst e;simp at h⟩
instance {b:Bool}{p q:Prop} [h:Nb b p q]:Nb (!b) q p:=⟨fun e=>h.f (by cases b<;>simp_all),fun e=>h.t (by cases b<;>simp_all)⟩
theorem cc [Env]{c:Operand}{x z:Code}{b:Bool}{p q:Prop} [h:Nb b p q](hc:ev l c=some (.bool b))(h1:p→Sc P n x Q l L)(h0:q→Sc P n z Q l L):Sc P n (.cond c x z) Q l L:=aet hc (fun e=>h1 (h.t e)) (fun e=>h0 (h.f e))
theorem cv [Env]{ops:Array Oper}{rest:List Oper}(t:Nat){b:Bool}{p q:Prop} [h:Nb b p q](hl:look l t=some (.bool b))(h1:p→Sy P ops n rest Q ((t,.bool true)::l) L)(h0:q→Sy P ops n rest Q ((t,.bool false)::l) L):Sy P ops n rest Q l L:=adB t hl (fun e=>h1 (h.t e)) (fun e=>h0 (h.f e))
theorem fZ [Env]{ops:Array Oper}{tail:List Oper}{π:List (Nat × Bool)}(t:Nat){b:Bool}{p q:Prop} [h:Nb b p q](hl:look l t=some (.bool b))(h1:p→Sh P ops n tail Q Lh π ((t,.bool true)::l) L)(h0:q→Sh P ops n tail Q Lh π ((t,.bool false)::l) L):Sh P ops n tail Q Lh π l L:=ZH t hl (fun e=>h1 (h.t e)) (fun e=>h0 (h.f e))
end
end Go.Sl
namespace Go.Proofs
open _root_.Go.Proofs.Tryz
open Go Go.Sl
instance :ub Tryz.prog 34 [(0,1),(1,1),(2,1),(3,1),(4,1),(5,1),(6,1),(7,4),(11,1),(12,1)] [.int .i64 0,.int .i64 0,.int .i64 0,.int .i64 0,.int .i64 0,.int .i64 0,.int .i64 0,.int .i64 0,.int .i64 0,.int .i64 0,.int .i64 0,.string .empty,.string .empty]:=⟨_,_,underlying34,zeroValue34,rfl,.cons sizeOf3 (.cons sizeOf2 (.cons sizeOf2 (.cons sizeOf2 (.cons sizeOf3 (.cons sizeOf3 (.cons sizeOf31 (.cons sizeOf32 (.cons sizeOf9 (.cons sizeOf9 (.nil))))))))))⟩
instance :ub Tryz.prog 42 [(0,1),(1,1),(2,1)] [.int .i64 0,.int .i64 0,.string .empty]:=⟨_,_,underlying42,zeroValue42,rfl,.cons sizeOf3 (.cons sizeOf3 (.cons sizeOf9 (.nil)))⟩
instance :ub Tryz.prog 52 [(0,1),(1,1),(2,1),(3,1),(4,1),(5,1),(6,1),(7,1),(8,1),(9,1),(10,1)] [.bool false,.bool false,.int .i64 0,.int .i64 0,.int .i64 0,.int .i64 0,.int .i64 0,.int .i64 0,.int .i64 0,.int .i64 0,.int .i64 0]:=⟨_,_,underlying52,zeroValue52,rfl,.cons sizeOf4 (.cons sizeOf4 (.cons sizeOf2 (.cons sizeOf3 (.cons sizeOf3 (.cons sizeOf3 (.cons sizeOf3 (.cons sizeOf3 (.cons sizeOf2 (.cons sizeOf2 (.cons sizeOf2 (.nil)))))))))))⟩
instance :ub Tryz.prog 84 [(0,1),(1,1)] [.int .i64 0,.int .i64 0]:=⟨_,_,underlying84,zeroValue84,rfl,.cons sizeOf2 (.cons sizeOf2 (.nil))⟩
instance :ub Tryz.prog 88 [(0,1),(1,1),(2,1)] [.int .i64 0,.slice none 0 0,.slice none 0 0]:=⟨_,_,underlying88,zeroValue88,rfl,.cons sizeOf3 (.cons sizeOf57 (.cons sizeOf86 (.nil)))⟩
instance :ub Tryz.prog 104 [(0,1),(1,1),(2,1),(3,1),(4,1),(5,1)] [.int .i64 0,.int .i64 0,.int .i64 0,.int .i64 0,.slice none 0 0,.pointer none]:=⟨_,_,underlying104,zeroValue104,rfl,.cons sizeOf3 (.cons sizeOf3 (.cons sizeOf3 (.cons sizeOf2 (.cons sizeOf101 (.cons sizeOf102 (.nil))))))⟩
instance :ub Tryz.prog 106 [(0,1),(1,1),(2,1),(3,1),(4,1),(5,1),(6,1),(7,1),(8,1),(9,1),(10,1),(11,1),(12,1),(13,1),(14,1),(15,1),(16,4),(20,4),(24,1),(25,1),(26,6)] [.int .i64 0,.int .i64 0,.int .i64 0,.int .i64 0,.int .i64 0,.pointer none,.pointer none,.pointer none,.int .i64 0,.bool false,.bool false,.int .i64 0,.int .i64 0,.int .i64 0,.int .i64 0,.int .i64 0,.int .i64 0,.int .i64 0,.int .i64 0,.int .i64 0,.int .i64 0,.int .i64 0,.int .i64 0,.int .i64 0,.int .i64 0,.slice none 0 0,.int .i64 0,.int .i64 0,.int .i64 0,.int .i64 0,.slice none 0 0,.pointer none]:=⟨_,_,underlying106,zeroValue106,rfl,.cons sizeOf3 (.cons sizeOf2 (.cons sizeOf2 (.cons sizeOf2 (.cons sizeOf3 (.cons sizeOf96 (.cons sizeOf97 (.cons sizeOf98 (.cons sizeOf100 (.cons sizeOf4 (.cons sizeOf4 (.cons sizeOf2 (.cons sizeOf3 (.cons sizeOf2 (.cons sizeOf2 (.cons sizeOf2 (.cons sizeOf32 (.cons sizeOf32 (.cons sizeOf2 (.cons sizeOf45 (.cons sizeOf104 (.nil)))))))))))))))))))))⟩
instance :ub Tryz.prog 127 [(0,1),(1,2),(3,1),(4,1),(5,1),(6,1)] [.int .i64 0,.int .i64 0,.int .i64 0,.string .empty,.bool false,.int .i64 0,.int .i64 0]:=⟨_,_,underlying127,zeroValue127,rfl,.cons sizeOf3 (.cons sizeOf84 (.cons sizeOf9 (.cons sizeOf4 (.cons sizeOf3 (.cons sizeOf2 (.nil))))))⟩
instance :ub Tryz.prog 134 [(0,1),(1,2),(3,1),(4,1),(5,1)] [.pointer none,.int .i64 0,.int .i64 0,.int .i64 0,.int .i64 0,.string .empty]:=⟨_,_,underlying134,zeroValue134,rfl,.cons sizeOf26 (.cons sizeOf132 (.cons sizeOf3 (.cons sizeOf2 (.cons sizeOf9 (.nil)))))⟩
instance :ub Tryz.prog 140 [(0,1),(1,1)] [.int .i64 0,.int .u64 0]:=⟨_,_,underlying140,zeroValue140,rfl,.cons sizeOf3 (.cons sizeOf138 (.nil))⟩
instance :ub Tryz.prog 143 [(0,1),(1,1),(2,2)] [.pointer none,.int .i64 0,.int .i64 0,.int .u64 0]:=⟨_,_,underlying143,zeroValue143,rfl,.cons sizeOf96 (.cons sizeOf3 (.cons sizeOf140 (.nil)))⟩
instance :ub Tryz.prog 152 [(0,2),(2,4)] [.int .i64 0,.int .i64 0,.int .i64 0,.int .i64 0,.int .i64 0,.int .i64 0]:=⟨_,_,underlying152,zeroValue152,rfl,.cons sizeOf84 (.cons sizeOf32 (.nil))⟩
instance :ub Tryz.prog 157 [(0,1),(1,6)] [.nilIface,.int .i64 0,.int .i64 0,.int .i64 0,.int .i64 0,.int .i64 0,.int .i64 0]:=⟨_,_,underlying157,zeroValue157,rfl,.cons sizeOf20 (.cons sizeOf152 (.nil))⟩
instance :ub Tryz.prog 162 [] []:=⟨_,_,underlying162,zeroValue162,rfl,.nil⟩
instance :ub Tryz.prog 165 [(0,1)] [.slice none 0 0]:=⟨_,_,underlying165,zeroValue165,rfl,.cons sizeOf55 (.nil)⟩
instance :ub Tryz.prog 170 [(0,1),(1,1)] [.slice none 0 0,.int .i64 0]:=⟨_,_,underlying170,zeroValue170,rfl,.cons sizeOf168 (.cons sizeOf2 (.nil))⟩
instance :ub Tryz.prog 177 [(0,1),(1,1),(2,1),(3,1),(4,1),(5,1),(6,1)] [.int .i64 0,.int .i64 0,.int .i64 0,.int .i64 0,.int .i64 0,.bool false,.int .i64 0]:=⟨_,_,underlying177,zeroValue177,rfl,.cons sizeOf3 (.cons sizeOf2 (.cons sizeOf3 (.cons sizeOf3 (.cons sizeOf2 (.cons sizeOf4 (.cons sizeOf2 (.nil)))))))⟩
instance :ub Tryz.prog 202 [(0,1),(1,1),(2,1)] [.int .i64 0,.int .i64 0,.int .i64 0]:=⟨_,_,underlying202,zeroValue202,rfl,.cons sizeOf2 (.cons sizeOf2 (.cons sizeOf2 (.nil)))⟩
instance :ub Tryz.prog 208 [(0,1),(1,1),(2,1),(3,1),(4,1),(5,1),(6,1),(7,1)] [.pointer none,.int .i64 0,.int .i64 0,.pointer none,.int .i64 0,.int .i64 0,.int .i64 0,.slice none 0 0]:=⟨_,_,underlying208,zeroValue208,rfl,.cons sizeOf26 (.cons sizeOf3 (.cons sizeOf3 (.cons sizeOf96 (.cons sizeOf2 (.cons sizeOf2 (.cons sizeOf2 (.cons sizeOf206 (.nil))))))))⟩
instance :ub Tryz.prog 211 [(0,1),(1,1)] [.string .empty,.int .i64 0]:=⟨_,_,underlying211,zeroValue211,rfl,.cons sizeOf9 (.cons sizeOf2 (.nil))⟩
instance :ub Tryz.prog 215 [(0,7)] [.int .i64 0,.int .i64 0,.int .i64 0,.string .empty,.bool false,.int .i64 0,.int .i64 0]:=⟨_,_,underlying215,zeroValue215,rfl,.cons sizeOf127 (.nil)⟩
instance :ub Tryz.prog 217 [(0,1),(1,2)] [.int .i64 0,.int .i64 0,.int .i64 0]:=⟨_,_,underlying217,zeroValue217,rfl,.cons sizeOf3 (.cons sizeOf84 (.nil))⟩
instance :ub Tryz.prog 219 [(0,1)] [.int .i64 0]:=⟨_,_,underlying219,zeroValue219,rfl,.cons sizeOf3 (.nil)⟩
instance :ub Tryz.prog 228 [(0,1),(1,1),(2,1),(3,1),(4,1)] [.int .i64 0,.int .i64 0,.string .empty,.int .i64 0,.int .i64 0]:=⟨_,_,underlying228,zeroValue228,rfl,.cons sizeOf2 (.cons sizeOf3 (.cons sizeOf9 (.cons sizeOf3 (.cons sizeOf2 (.nil)))))⟩
instance :ub Tryz.prog 248 [] []:=⟨_,_,underlying248,zeroValue248,rfl,.nil⟩
instance :dM Tryz.prog 23 0 0:=⟨_,_,_,underlying23,rfl,sizeOf3⟩
instance :dM Tryz.prog 23 1 1:=⟨_,_,_,underlying23,rfl,sizeOf2⟩
instance :dM Tryz.prog 23 2 2:=⟨_,_,_,underlying23,rfl,sizeOf3⟩
instance :dM Tryz.prog 23 3 3:=⟨_,_,_,underlying23,rfl,sizeOf3⟩
instance :dM Tryz.prog 23 4 4:=⟨_,_,_,underlying23,rfl,sizeOf2⟩
instance :dM Tryz.prog 23 5 5:=⟨_,_,_,underlying23,rfl,sizeOf2⟩
instance :dM Tryz.prog 34 0 0:=⟨_,_,_,underlying34,rfl,sizeOf3⟩
instance :dM Tryz.prog 34 1 1:=⟨_,_,_,underlying34,rfl,sizeOf2⟩
instance :dM Tryz.prog 34 2 2:=⟨_,_,_,underlying34,rfl,sizeOf2⟩
instance :dM Tryz.prog 34 3 3:=⟨_,_,_,underlying34,rfl,sizeOf2⟩
instance :dM Tryz.prog 34 4 4:=⟨_,_,_,underlying34,rfl,sizeOf3⟩
instance :dM Tryz.prog 34 5 5:=⟨_,_,_,underlying34,rfl,sizeOf3⟩
instance :dM Tryz.prog 34 6 6:=⟨_,_,_,underlying34,rfl,sizeOf31⟩
instance :dM Tryz.prog 34 7 7:=⟨_,_,_,underlying34,rfl,sizeOf32⟩
instance :dM Tryz.prog 34 8 11:=⟨_,_,_,underlying34,rfl,sizeOf9⟩
instance :dM Tryz.prog 34 9 12:=⟨_,_,_,underlying34,rfl,sizeOf9⟩
instance :dM Tryz.prog 37 0 0:=⟨_,_,_,underlying37,rfl,sizeOf3⟩
instance :dM Tryz.prog 37 1 1:=⟨_,_,_,underlying37,rfl,sizeOf3⟩
instance :dM Tryz.prog 37 2 2:=⟨_,_,_,underlying37,rfl,sizeOf3⟩
instance :dM Tryz.prog 37 3 3:=⟨_,_,_,underlying37,rfl,sizeOf3⟩
instance :dM Tryz.prog 37 4 4:=⟨_,_,_,underlying37,rfl,sizeOf34⟩
instance :dM Tryz.prog 37 5 17:=⟨_,_,_,underlying37,rfl,sizeOf9⟩
instance :dM Tryz.prog 37 6 18:=⟨_,_,_,underlying37,rfl,sizeOf35⟩
instance :dM Tryz.prog 42 0 0:=⟨_,_,_,underlying42,rfl,sizeOf3⟩
instance :dM Tryz.prog 42 1 1:=⟨_,_,_,underlying42,rfl,sizeOf3⟩
instance :dM Tryz.prog 42 2 2:=⟨_,_,_,underlying42,rfl,sizeOf9⟩
instance :dM Tryz.prog 52 0 0:=⟨_,_,_,underlying52,rfl,sizeOf4⟩
instance :dM Tryz.prog 52 1 1:=⟨_,_,_,underlying52,rfl,sizeOf4⟩
instance :dM Tryz.prog 52 2 2:=⟨_,_,_,underlying52,rfl,sizeOf2⟩
instance :dM Tryz.prog 52 3 3:=⟨_,_,_,underlying52,rfl,sizeOf3⟩
instance :dM Tryz.prog 52 8 8:=⟨_,_,_,underlying52,rfl,sizeOf2⟩
instance :dM Tryz.prog 81 0 0:=⟨_,_,_,underlying81,rfl,sizeOf3⟩
instance :dM Tryz.prog 81 1 1:=⟨_,_,_,underlying81,rfl,sizeOf3⟩
instance :dM Tryz.prog 84 0 0:=⟨_,_,_,underlying84,rfl,sizeOf2⟩
instance :dM Tryz.prog 84 1 1:=⟨_,_,_,underlying84,rfl,sizeOf2⟩
instance :dM Tryz.prog 88 0 0:=⟨_,_,_,underlying88,rfl,sizeOf3⟩
instance :dM Tryz.prog 88 1 1:=⟨_,_,_,underlying88,rfl,sizeOf57⟩
instance :dM Tryz.prog 88 2 2:=⟨_,_,_,underlying88,rfl,sizeOf86⟩
instance :dM Tryz.prog 95 0 0:=⟨_,_,_,underlying95,rfl,sizeOf92⟩
instance :dM Tryz.prog 95 1 1:=⟨_,_,_,underlying95,rfl,sizeOf93⟩
instance :dM Tryz.prog 95 2 2:=⟨_,_,_,underlying95,rfl,sizeOf4⟩
instance :dM Tryz.prog 95 3 3:=⟨_,_,_,underlying95,rfl,sizeOf3⟩
instance :dM Tryz.prog 100 0 0:=⟨_,_,_,underlying100,rfl,sizeOf2⟩
instance :dM Tryz.prog 104 0 0:=⟨_,_,_,underlying104,rfl,sizeOf3⟩
instance :dM Tryz.prog 104 1 1:=⟨_,_,_,underlying104,rfl,sizeOf3⟩
instance :dM Tryz.prog 104 2 2:=⟨_,_,_,underlying104,rfl,sizeOf3⟩
instance :dM Tryz.prog 104 3 3:=⟨_,_,_,underlying104,rfl,sizeOf2⟩
instance :dM Tryz.prog 104 4 4:=⟨_,_,_,underlying104,rfl,sizeOf101⟩
instance :dM Tryz.prog 104 5 5:=⟨_,_,_,underlying104,rfl,sizeOf102⟩
instance :dM Tryz.prog 106 0 0:=⟨_,_,_,underlying106,rfl,sizeOf3⟩
instance :dM Tryz.prog 106 1 1:=⟨_,_,_,underlying106,rfl,sizeOf2⟩
instance :dM Tryz.prog 106 2 2:=⟨_,_,_,underlying106,rfl,sizeOf2⟩
instance :dM Tryz.prog 106 3 3:=⟨_,_,_,underlying106,rfl,sizeOf2⟩
instance :dM Tryz.prog 106 4 4:=⟨_,_,_,underlying106,rfl,sizeOf3⟩
instance :dM Tryz.prog 106 5 5:=⟨_,_,_,underlying106,rfl,sizeOf96⟩
instance :dM Tryz.prog 106 6 6:=⟨_,_,_,underlying106,rfl,sizeOf97⟩
instance :dM Tryz.prog 106 7 7:=⟨_,_,_,underlying106,rfl,sizeOf98⟩
instance :dM Tryz.prog 106 8 8:=⟨_,_,_,underlying106,rfl,sizeOf100⟩
instance :dM Tryz.prog 106 9 9:=⟨_,_,_,underlying106,rfl,sizeOf4⟩
instance :dM Tryz.prog 106 10 10:=⟨_,_,_,underlying106,rfl,sizeOf4⟩
instance :dM Tryz.prog 106 11 11:=⟨_,_,_,underlying106,rfl,sizeOf2⟩
instance :dM Tryz.prog 106 12 12:=⟨_,_,_,underlying106,rfl,sizeOf3⟩
instance :dM Tryz.prog 106 13 13:=⟨_,_,_,underlying106,rfl,sizeOf2⟩
instance :dM Tryz.prog 106 14 14:=⟨_,_,_,underlying106,rfl,sizeOf2⟩
instance :dM Tryz.prog 106 15 15:=⟨_,_,_,underlying106,rfl,sizeOf2⟩
instance :dM Tryz.prog 106 16 16:=⟨_,_,_,underlying106,rfl,sizeOf32⟩
instance :dM Tryz.prog 106 17 20:=⟨_,_,_,underlying106,rfl,sizeOf32⟩
instance :dM Tryz.prog 106 18 24:=⟨_,_,_,underlying106,rfl,sizeOf2⟩
instance :dM Tryz.prog 106 19 25:=⟨_,_,_,underlying106,rfl,sizeOf45⟩
instance :dM Tryz.prog 106 20 26:=⟨_,_,_,underlying106,rfl,sizeOf104⟩
instance :dM Tryz.prog 127 0 0:=⟨_,_,_,underlying127,rfl,sizeOf3⟩
instance :dM Tryz.prog 127 1 1:=⟨_,_,_,underlying127,rfl,sizeOf84⟩
instance :dM Tryz.prog 127 2 3:=⟨_,_,_,underlying127,rfl,sizeOf9⟩
instance :dM Tryz.prog 127 3 4:=⟨_,_,_,underlying127,rfl,sizeOf4⟩
instance :dM Tryz.prog 127 4 5:=⟨_,_,_,underlying127,rfl,sizeOf3⟩
instance :dM Tryz.prog 127 5 6:=⟨_,_,_,underlying127,rfl,sizeOf2⟩
instance :dM Tryz.prog 134 0 0:=⟨_,_,_,underlying134,rfl,sizeOf26⟩
instance :dM Tryz.prog 134 1 1:=⟨_,_,_,underlying134,rfl,sizeOf132⟩
instance :dM Tryz.prog 134 2 3:=⟨_,_,_,underlying134,rfl,sizeOf3⟩
instance :dM Tryz.prog 134 3 4:=⟨_,_,_,underlying134,rfl,sizeOf2⟩
instance :dM Tryz.prog 134 4 5:=⟨_,_,_,underlying134,rfl,sizeOf9⟩
instance :dM Tryz.prog 140 0 0:=⟨_,_,_,underlying140,rfl,sizeOf3⟩
instance :dM Tryz.prog 140 1 1:=⟨_,_,_,underlying140,rfl,sizeOf138⟩
instance :dM Tryz.prog 143 0 0:=⟨_,_,_,underlying143,rfl,sizeOf96⟩
instance :dM Tryz.prog 143 1 1:=⟨_,_,_,underlying143,rfl,sizeOf3⟩
instance :dM Tryz.prog 143 2 2:=⟨_,_,_,underlying143,rfl,sizeOf140⟩
instance :dM Tryz.prog 152 0 0:=⟨_,_,_,underlying152,rfl,sizeOf84⟩
instance :dM Tryz.prog 152 1 2:=⟨_,_,_,underlying152,rfl,sizeOf32⟩
instance :dM Tryz.prog 154 0 0:=⟨_,_,_,underlying154,rfl,sizeOf146⟩
instance :dM Tryz.prog 154 1 1:=⟨_,_,_,underlying154,rfl,sizeOf3⟩
instance :dM Tryz.prog 154 2 2:=⟨_,_,_,underlying154,rfl,sizeOf3⟩
instance :dM Tryz.prog 154 3 3:=⟨_,_,_,underlying154,rfl,sizeOf149⟩
instance :dM Tryz.prog 154 4 4:=⟨_,_,_,underlying154,rfl,sizeOf150⟩
instance :dM Tryz.prog 154 5 5:=⟨_,_,_,underlying154,rfl,sizeOf152⟩
instance :dM Tryz.prog 157 0 0:=⟨_,_,_,underlying157,rfl,sizeOf20⟩
instance :dM Tryz.prog 157 1 1:=⟨_,_,_,underlying157,rfl,sizeOf152⟩
instance :dM Tryz.prog 165 0 0:=⟨_,_,_,underlying165,rfl,sizeOf55⟩
instance :dM Tryz.prog 170 0 0:=⟨_,_,_,underlying170,rfl,sizeOf168⟩
instance :dM Tryz.prog 170 1 1:=⟨_,_,_,underlying170,rfl,sizeOf2⟩
instance :dM Tryz.prog 177 0 0:=⟨_,_,_,underlying177,rfl,sizeOf3⟩
instance :dM Tryz.prog 177 1 1:=⟨_,_,_,underlying177,rfl,sizeOf2⟩
instance :dM Tryz.prog 177 2 2:=⟨_,_,_,underlying177,rfl,sizeOf3⟩
instance :dM Tryz.prog 177 3 3:=⟨_,_,_,underlying177,rfl,sizeOf3⟩
instance :dM Tryz.prog 177 4 4:=⟨_,_,_,underlying177,rfl,sizeOf2⟩
instance :dM Tryz.prog 177 5 5:=⟨_,_,_,underlying177,rfl,sizeOf4⟩
instance :dM Tryz.prog 177 6 6:=⟨_,_,_,underlying177,rfl,sizeOf2⟩
instance :dM Tryz.prog 202 0 0:=⟨_,_,_,underlying202,rfl,sizeOf2⟩
instance :dM Tryz.prog 202 1 1:=⟨_,_,_,underlying202,rfl,sizeOf2⟩
instance :dM Tryz.prog 202 2 2:=⟨_,_,_,underlying202,rfl,sizeOf2⟩
instance :dM Tryz.prog 208 0 0:=⟨_,_,_,underlying208,rfl,sizeOf26⟩
instance :dM Tryz.prog 208 1 1:=⟨_,_,_,underlying208,rfl,sizeOf3⟩
instance :dM Tryz.prog 208 2 2:=⟨_,_,_,underlying208,rfl,sizeOf3⟩
instance :dM Tryz.prog 208 3 3:=⟨_,_,_,underlying208,rfl,sizeOf96⟩
instance :dM Tryz.prog 208 4 4:=⟨_,_,_,underlying208,rfl,sizeOf2⟩
instance :dM Tryz.prog 208 5 5:=⟨_,_,_,underlying208,rfl,sizeOf2⟩
instance :dM Tryz.prog 208 6 6:=⟨_,_,_,underlying208,rfl,sizeOf2⟩
instance :dM Tryz.prog 208 7 7:=⟨_,_,_,underlying208,rfl,sizeOf206⟩
instance :dM Tryz.prog 211 0 0:=⟨_,_,_,underlying211,rfl,sizeOf9⟩
instance :dM Tryz.prog 211 1 1:=⟨_,_,_,underlying211,rfl,sizeOf2⟩
instance :dM Tryz.prog 215 0 0:=⟨_,_,_,underlying215,rfl,sizeOf127⟩
instance :dM Tryz.prog 217 0 0:=⟨_,_,_,underlying217,rfl,sizeOf3⟩
instance :dM Tryz.prog 217 1 1:=⟨_,_,_,underlying217,rfl,sizeOf84⟩
instance :dM Tryz.prog 219 0 0:=⟨_,_,_,underlying219,rfl,sizeOf3⟩
instance :dM Tryz.prog 228 0 0:=⟨_,_,_,underlying228,rfl,sizeOf2⟩
instance :dM Tryz.prog 228 1 1:=⟨_,_,_,underlying228,rfl,sizeOf3⟩
instance :dM Tryz.prog 228 2 2:=⟨_,_,_,underlying228,rfl,sizeOf9⟩
instance :dM Tryz.prog 228 3 3:=⟨_,_,_,underlying228,rfl,sizeOf3⟩
instance :dM Tryz.prog 228 4 4:=⟨_,_,_,underlying228,rfl,sizeOf2⟩
instance :ua Tryz.prog 2:=⟨isAgg2⟩
instance :ua Tryz.prog 3:=⟨isAgg3⟩
instance :ua Tryz.prog 4:=⟨isAgg4⟩
instance :ua Tryz.prog 9:=⟨isAgg9⟩
instance :ua Tryz.prog 20:=⟨isAgg20⟩
instance :ua Tryz.prog 26:=⟨isAgg26⟩
instance :ua Tryz.prog 27:=⟨isAgg27⟩
instance :ua Tryz.prog 31:=⟨isAgg31⟩
instance :ua Tryz.prog 35:=⟨isAgg35⟩
instance :ua Tryz.prog 45:=⟨isAgg45⟩
instance :ua Tryz.prog 55:=⟨isAgg55⟩
instance :ua Tryz.prog 57:=⟨isAgg57⟩
instance :ua Tryz.prog 86:=⟨isAgg86⟩
instance :ua Tryz.prog 92:=⟨isAgg92⟩
instance :ua Tryz.prog 93:=⟨isAgg93⟩
instance :ua Tryz.prog 96:=⟨isAgg96⟩
instance :ua Tryz.prog 97:=⟨isAgg97⟩
instance :ua Tryz.prog 98:=⟨isAgg98⟩
instance :ua Tryz.prog 101:=⟨isAgg101⟩
instance :ua Tryz.prog 102:=⟨isAgg102⟩
instance :ua Tryz.prog 138:=⟨isAgg138⟩
instance :ua Tryz.prog 146:=⟨isAgg146⟩
instance :ua Tryz.prog 149:=⟨isAgg149⟩
instance :ua Tryz.prog 150:=⟨isAgg150⟩
instance :ua Tryz.prog 168:=⟨isAgg168⟩
instance :ua Tryz.prog 206:=⟨isAgg206⟩
end Go.Proofs