/- A part of the proof. -/
import Derived.Test.YtlignadmmopdmaaGreatNodT
import Derived.Test.YtlignadmmopdmaaGreatNodP
set_option linter.unusedVariables false
set_option linter.unusedSimpArgs false
set_option linter.constructorNameAsVariable false
namespace Go.Sl
theorem nodOpen_serial{id serial:Int}{D:Dev}{bl lease patience:Int}(h:(nodOpen id serial D bl lease patience).1=0):(nodOpen id serial D bl lease patience).2.serial=serial:=by
 have hf: ∀n:NodM,(nodFact n).2.serial=n.serial:=fun n=>by
  unfold nodFact;split
  · rfl
  · rename_i e _;exact congrArg (·.2.1) (boot_who {n with epoch:=e} e)
 unfold nodOpen at h ⊢
 split
 ·rename_i c;rw[if_pos c]at h;exact absurd h (show¬(1:Int)=0 by decide)
 rename_i c1;rw[if_neg c1]at h
 split
 ·rename_i c;rw[if_pos c]at h;exact absurd h c
 rename_i c2;rw[if_neg c2]at h
 split
 ·rename_i c;rw[if_pos c]at h;exact absurd h c
 rename_i c3;rw[if_neg c3]at h
 split
 ·rename_i c;rw[if_pos c]at h;exact absurd h c
 ·exact hf _
theorem mayMk{k e s n b c r t0 t1 t2 t3:Int}{d w:Bytes}(hk:1≤k∧k≤15)(he:N62 e)(hs:N62 s)(hn: -4611686018427387904≤n∧n≤4611686018427387904)(hb: -1≤b∧b≤31)(hc: -1≤c∧c≤3)(hr:0≤r∧r≤31)(hd:d.length≤40)(hw:w.length≤10)
  (h0:N62 t0) (h1:N62 t1) (h2:N62 t2) (h3:N62 t3):(⟨k,e,s,n,b,c,r,t0,t1,t2,t3,d,w⟩:MsgM).may=true:=
 nmay_P.2 ⟨h0,h1,h2,h3,by show(d.length:Int)≤40;omega,by show(w.length:Int)≤10;omega,hk,he,hs,hn,hb,hc,hr⟩
namespace NodM
variable {n : NodM} {K : Nat}
theorem told_nil{a:ActN}(h:(n.step a).out=[]):n.told a=[]:=by unfold told;split;exact h;rfl
/-- A node that is down sends nothing. -/
theorem quiet_down(h:n.down=true)(a:ActN):n.told a=[]∧(n.step a).down=true:=by
 have h1:n.tick=n.clear:=if_pos h
 have h2: ∀l,(n.take l).2=n.clear:=fun l=>by unfold take take1;rw[if_pos (show n.clear.down=true from h)]
 have h3:n.step a=n.clear∨n.step a=n∧ ¬(a.kind=0∨a.kind=1):=by
  unfold step;split
  · exact .inl (h2 _)
  split
  · exact .inl h1
  · exact .inr ⟨rfl,by omega⟩
 rcases h3 with h3|⟨h3,h4⟩
 ·exact⟨told_nil (by rw[h3];rfl),by rw[h3];exact h⟩
 ·exact⟨if_neg h4,by rw[h3];exact h⟩
theorem found_out(e:Int):(n.found e).out=n.out:=by
 have h1: ∀(l:List Nat) (n:NodM),(eachB found1 l n).2.out=n.out:=by
  intro l;induction l with
  |nil=>intro n;rfl
  |cons x l ih=>intro n;unfold eachB;split;rfl;exact(ih _).trans rfl
 unfold found
 have h2:=h1 (List.range n.blocks.toNat) n
 unfold andThen;split
 ·have h3:((eachB found1 (List.range n.blocks.toNat) n).2.boot e).2.out=n.out:=by
   unfold boot;dsimp only;split
   · exact h2
   split<;>exact h2
  unfold found2;dsimp only;split<;>exact h3
 ·exact h2
theorem found_serial(e:Int):(n.found e).serial=n.serial:=by
 have h1:(eachB found1 (List.range n.blocks.toNat) n).2.who=n.who:=who_each (fun _ _=>rfl) _ _
 unfold found andThen
 split
 ·have h2:=(boot_who (eachB found1 (List.range n.blocks.toNat) n).2 e).trans h1
  unfold found2;dsimp only;split<;>exact congrArg (·.2.1) h2
 ·exact congrArg (·.2.1) h1
theorem step_serial(a:ActN):(n.step a).serial=n.serial:=by
 by_cases hl:n.lost=true
 rotate_left
 ·exact congrArg (·.2.1) (step_who (by simpa using hl) a)
 unfold step;split
 ·unfold take take1
  split
  ·rfl
  split
  ·rfl
  split
  ·rfl
  split
  ·rfl
  ·rename_i h4
   have h5:(letN a).frm=2:=Classical.not_not.1 fun h=>h4 ⟨h,hl⟩
   have h6:(n.clear.hear (letN a).frm (decMsg (letN a).body).1).serial=n.serial:=by
    unfold hear;rw[if_pos h5];unfold heard;rw[if_pos (show n.clear.lost=true from hl)]
    split
    · exact found_serial (n:=n.clear) _
    · rfl
   unfold hush;split<;>exact h6
 split
 ·exact congrArg (·.2.1) (tick_who n)
 ·rfl
theorem hush_out{l:List LetM}(h:n.out=l):n.hush.out=l∨n.hush.out=[]:=by unfold hush;split;exact .inr rfl;exact .inl h
def lostM(s:Int):MsgM:={msg0 with kind:=4,n:=s}
theorem lostM_may{s:Int}(h:N62 s):(lostM s).may=true:=mayMk (by decide) n620 n620 ⟨by have:=h.1;omega,h.2⟩ (by decide) (by decide) (by decide) (by decide) (by decide) n620 n620 n620 n620
/-- One that has lost all sends nothing but that. -/
theorem quiet_lost(hok:n.ok K)(hd:n.down=false)(hl:n.lost=true)(a:ActN): ∀y∈n.told a,y.to=2∧(decMsg y.body).1.kind=4∧(decMsg y.body).1.n=n.serial∧y.body.length≤1000:=by
 unfold told step
 split
 ·split
  ·intro y hy
   exfalso
   suffices h:(n.take (letN a)).2.out=[]by rw[h]at hy;cases hy
   unfold take take1
   split
   ·rfl
   split
   ·rfl
   split
   ·rfl
   split
   ·rfl
   ·rename_i h4
    have h5:(letN a).frm=2:=Classical.not_not.1 fun h=>h4 ⟨h,hl⟩
    have h6:(n.clear.hear (letN a).frm (decMsg (letN a).body).1).out=[]:=by
     unfold hear;rw[if_pos h5];unfold heard;rw[if_pos (show n.clear.lost=true from hl)]
     split
     · exact found_out _
     · rfl
    exact(hush_out h6).elim (fun h=>h) (fun h=>h)
  ·rename_i h0 h1
   rw[if_pos (h0.resolve_left h1)]
   unfold tick
   rw[if_neg (by rw[hd];exact Bool.false_ne_true)]
   unfold tick1;rw[if_pos (show n.clear.tick0.lost=true from hl)]
   intro y hy
   have hm:=decMsg_enc (lostM_may hok.a.serial)
   have hy:y=⟨n.id,2,encMsg (lostM n.serial)⟩:=by simpa[send,clear,tick0,lostM]using hy
   subst hy;dsimp only;rw[hm];exact⟨rfl,rfl,rfl,encMsg_len _⟩
 ·intro y hy;cases hy
end NodM
end Go.Sl
