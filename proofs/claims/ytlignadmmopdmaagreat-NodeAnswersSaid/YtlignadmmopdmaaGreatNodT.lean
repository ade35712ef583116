/- A part of the proof. -/
import Derived.Test.YtlignadmmopdmaaGreatN43
import Derived.Test.YtlignadmmopdmaaGreatGF
set_option linter.unusedVariables false
set_option linter.unusedSimpArgs false
set_option linter.constructorNameAsVariable false
namespace Go.Sl
theorem decMsg_enc{m:MsgM}(h:m.may=true):decMsg (encMsg m)=(m,0):=by
 have h1:decM (encMsg m)=(msgR m,0):=by unfold encMsg;rw[if_pos h];exact decM_some (recD_recB (msgR_may h))
 rw[decMsg_is (s:=encMsg m) h1,if_pos h]
/-- What no act changes: its number, its device's, and whether it has lost all. -/
def NodM.who(n:NodM):Int × Int × Bool:=(n.id,n.serial,n.lost)
namespace NodM
variable {n : NodM}
theorem who_then{r:Bool × NodM}{f:NodM→NodM}{w:Int × Int × Bool}(h:r.2.who=w)(hf: ∀n,n.who=w→(f n).who=w):(andThen r f).who=w:=by
 unfold andThen;split;exact hf _ h;exact h
theorem who_andB{r:Bool × NodM}{f:NodM→Bool × NodM}{w:Int × Int × Bool}(h:r.2.who=w)(hf: ∀n,n.who=w→(f n).2.who=w):(andB r f).2.who=w:=by
 unfold andB;split;exact hf _ h;exact h
theorem who_each{α:Type}{f:NodM→α→Bool × NodM}(hf: ∀n x,(f n x).2.who=n.who): ∀(l:List α) (n:NodM),(eachB f l n).2.who=n.who
 | [],n=>rfl
 |x::l,n=>by
  unfold eachB;split
  · exact hf n x
  · exact(who_each hf l _).trans (hf n x)
theorem who_fold{α:Type}{f:NodM→α→NodM}(hf: ∀n x,(f n x).who=n.who): ∀(l:List α) (n:NodM),(l.foldl f n).who=n.who
 | [],n=>rfl
 |x::l,n=>(who_fold hf l _).trans (hf n x)
theorem who_fold2{α β:Type}{f:β × NodM→α→β × NodM}(hf: ∀n x,(f n x).2.who=n.2.who): ∀(l:List α) (n:β × NodM),(l.foldl f n).2.who=n.2.who
 | [],n=>rfl
 |x::l,n=>(who_fold2 hf l _).trans (hf n x)
theorem who_delW{p:NodM→WaitM→Bool}{f:NodM→WaitM→NodM}(hf: ∀n x,(f n x).who=n.who): ∀(l:List WaitM) (n:NodM),(delW p f l n).2.who=n.who
 | [],n=>rfl
 |x::l,n=>by
  unfold delW;split
  · exact(who_delW hf l _).trans (hf n x)
  · exact who_delW hf l _
theorem adopt_who(e:Int):(n.adopt e).2.who=n.who:=by
 unfold adopt;split
 · rfl
 · exact who_andB rfl fun _ h=>h
theorem again1_who(n:NodM)(x:EntM):(n.again1 x).2.who=n.who:=by
 unfold again1;split
 ·rfl
 split
 ·rfl
 ·refine who_andB rfl fun n' h=>?_
  show(n'.modW _ _).who=_;unfold modW;split<;>exact h
theorem modW_who(b:Int)(f:WaitM→WaitM):(n.modW b f).who=n.who:=by unfold modW;split<;>rfl
theorem puts_who(n:NodM):n.puts.who=n.who:=who_fold (f:=NodM.put) (fun _ _=>rfl) _ _
theorem changes_who(mk:Int):(n.changes mk).who=n.who:=by unfold changes;dsimp only;split<;>rfl
theorem note_who(n:NodM):n.note.2.who=n.who:=by
 unfold note;split
 · rfl
 · exact who_andB rfl fun _ h=>h
theorem again_who(n:NodM):n.again.2.who=n.who:=who_each again1_who _ _
theorem marks_who(n:NodM):n.marks.2.who=n.who:=who_each (fun n x=>by unfold marks1;split<;>rfl) _ _
theorem given_who(n:NodM)(w:WaitM)(b:Bytes):(n.given w b).who=n.who:=by unfold given;split<;>rfl
theorem reads_who(n:NodM):n.reads.who=n.who:=who_fold2 (f:=n.reads1) (fun a w=>by
 unfold reads1;split
 ·split
  · exact given_who _ _ _
  · rfl
 ·split<;>rfl) n.waits ([],n)
theorem settle_who(n:NodM):n.settle.who=n.who:=by
 unfold settle;have h1:n.settle1.who=n.who:=who_delW (p:=settleP) (f:=settleF) (fun _ _=>rfl) _ _;have h2:n.settle1.settle2.who=n.who:=by unfold settle2;split<;>exact h1
 have h3:=(reads_who n.settle1.settle2).trans h2;generalize n.settle1.settle2.reads=k at*;unfold settle4;split
 · exact h3
 split
 · exact(changes_who _).trans h3
 · exact who_then ((note_who _).trans h3) fun n h=>(puts_who n).trans h
theorem recover_who(t:T4):(n.recover t).who=n.who:=by
 unfold recover;refine who_then (by unfold recover1;split<;>rfl) fun n h=>who_then (by unfold recover2;split;exact(marks_who _).trans h;exact h) fun n h=>who_then ((again_who _).trans h) fun n h=>?_
 unfold recover3;split
 · exact who_then ((note_who _).trans h) fun n h=>(puts_who _).trans h
 · exact who_then h fun n h=>h
theorem ready_who(n:NodM):n.ready.who=n.who:=
 who_then ((again_who _).trans rfl) fun n h=>who_then ((note_who _).trans h) fun n h=>(puts_who _).trans h
theorem tired_who(n:NodM):n.tired.who=n.who:=by
 unfold tired tired1;split
 · exact changes_who _
 · exact settle_who _
theorem destage_who(n:NodM):n.destage.who=n.who:=who_fold2 (f:=destage1) (fun a b=>by
 unfold destage1;split
 ·rfl
 ·split
  · dsimp only;split<;>rfl
  · split<;>rfl) _ (0,n)
theorem tock_who(n:NodM):n.tock.who=n.who:=by
 unfold tock;have h1:n.tock1.who=n.who:=by unfold tock1;split;exact puts_who _;rfl
 generalize n.tock1=k at*
 have h2:k.tock2.who=n.who:=by
  unfold tock2;split
  · exact(tired_who _).trans h1
  split
  · exact(changes_who _).trans h1
  · exact h1
 generalize k.tock2=j at*;unfold tock4;split
 ·exact h2
 ·refine(who_fold (f:=tockL) (fun n w=>by unfold tockL;split<;>rfl) _ _).trans ((destage_who _).trans ?_);unfold tock3;split<;>exact h2
theorem tick_who(n:NodM):n.tick.who=n.who:=by
 unfold tick;split
 · rfl
 unfold tick1;split
 · rfl
 unfold tick2;split
 · rfl
 split
 · exact tock_who _
 · rfl
theorem stored_who(m:MsgM):(n.stored m).who=n.who:=by
 unfold stored;have h1:(n.stored1 m).settle.who=n.who:=(settle_who _).trans (by unfold stored1;split;split;exact modW_who _ _;rfl;rfl);generalize (n.stored1 m).settle=k at*;unfold stored2;split
 ·exact h1
 split
 ·exact h1
 ·refine who_then h1 fun n h=>(reads_who _).trans ?_
  unfold cleanM;split<;>exact h
theorem backed_who(m:MsgM):(n.backed m).who=n.who:=by
 unfold backed;split
 · rfl
 split
 · rfl
 split
 · rfl
 split
 · exact recover_who _
 split
 · exact who_delW (p:=loadedP m) (f:=fun n w=>n.given w m.data) (fun _ _=>given_who _ _ _) _ _
 split
 · exact stored_who _
 · rfl
theorem twice2_who(n:NodM)(w:WaitM)(x:EntM):(n.twice2 w x).who=n.who:=by unfold twice2;split<;>rfl
theorem write_who(w:WaitM)(b:Bytes):(n.write w b).who=n.who:=by
 unfold write;split
 · rfl
 refine who_then (by unfold write1;split<;>rfl) fun n h=>?_
 unfold write2;split
 · exact h
 refine who_then h fun n h=>who_then h fun n h=>?_
 unfold write3;refine(twice2_who _ _ _).trans ?_;unfold writeP;split<;>exact h
theorem called_who(frm:Int)(m:MsgM):(n.called frm m).who=n.who:=by
 unfold called;split
 ·rfl
 split
 ·rfl
 split
 ·unfold twice;split
  · rfl
  split
  · rfl
  · exact twice2_who _ _ _
 unfold called1;split
 ·rfl
 split
 ·rfl
 unfold called2;split
 ·exact reads_who _
 split
 ·exact reads_who _
 split<;>exact write_who _ _
theorem stores_who(n:NodM):n.stores.who=n.who:=who_fold (f:=stores1) (fun n w=>by
 unfold stores1;split
 · rfl
 · split<;>rfl) _ _
theorem changed_who(mk:Int):(n.changed mk).who=n.who:=by
 unfold changed changed1;split
 · exact who_then rfl fun n h=>(settle_who n).trans h
 split
 · exact who_then (marks_who _) fun n h=>(settle_who _).trans ((stores_who _).trans (by unfold alones1;split<;>exact h))
 · rfl
theorem granted_who(m:MsgM):(n.granted m).who=n.who:=by
 unfold granted;split
 · split<;>rfl
 unfold granted1;split
 · rfl
 split
 · exact who_then (adopt_who _) fun n h=>h
 split<;>rfl
/-- What it hears, but where it has lost all. -/
theorem heard_who(hl:n.lost=false)(m:MsgM):(n.heard m).who=n.who:=by
 unfold heard;rw[if_neg (by rw[hl];exact Bool.false_ne_true)];split
 · exact granted_who _
 split
 · rfl
 split
 · rfl
 split
 · exact changed_who _
 · rfl
theorem lay_who(m:MsgM):(n.lay m).2.who=n.who:=by
 unfold lay;refine who_andB (by unfold lay1;split<;>rfl) fun n h=>?_
 split
 ·exact h
 ·refine who_andB (by unfold lay2;split<;>exact h) fun n h=>?_
  unfold lay3;split<;>exact h
theorem begun_who(m:MsgM):(n.begun m).who=n.who:=by
 unfold begun;split
 · rfl
 split
 · rfl
 refine who_then ?_ fun n h=>h
 unfold cleared;split
 · rfl
 · exact who_andB (who_each (fun n x=>by unfold cleared1;split<;>rfl) _ _) fun n h=>who_andB h fun n h=>h
theorem met_who(m:MsgM):(n.met m).who=n.who:=by
 unfold met;split
 ·split
  ·rfl
  ·refine who_then (adopt_who _) fun n h=>?_
   unfold met1;split
   ·exact h
   split
   ·unfold taken;split
    · exact h
    split
    · exact who_then (who_andB ((lay_who _).trans h) fun n h=>h) fun n h=>h
    · exact h
   ·exact(begun_who _).trans h
 split
 ·unfold metH;split
  ·exact(settle_who _).trans ((stores_who _).trans rfl)
  ·rfl
 split
 ·unfold metR;split
  ·exact ready_who _
  ·rfl
 split
 ·unfold metC;split
  ·split<;>rfl
  ·rfl
 ·rfl
theorem take_who(hl:n.lost=false)(l:LetM):(n.take l).2.who=n.who:=by
 unfold take take1;split
 ·rfl
 split
 ·rfl
 split
 ·rfl
 split
 ·rfl
 ·have h:(n.clear.hear l.frm (decMsg l.body).1).who=n.who:=by
   unfold hear;split
   · exact heard_who (n:=n.clear) hl _
   split
   · exact backed_who (n:=n.clear) _
   split
   · exact met_who (n:=n.clear) _
   · exact called_who (n:=n.clear) _ _
  unfold hush;split<;>exact h
theorem step_who(hl:n.lost=false)(a:ActN):(n.step a).who=n.who:=by
 unfold step;split
 · exact take_who hl _
 split
 · exact tick_who _
 · rfl
end NodM
/-- A formatted node hasn't lost all. -/
theorem format_text: ∀k:Nat,k<41→(nodFormat (Dev.new k)).1=0→fact (openC (nodFormat (Dev.new k)).2 0 1).text=some 0:=by decide+kernel
theorem boot_who(n:NodM)(e:Int):(n.boot e).2.who=n.who:=by
 unfold NodM.boot;dsimp only;split
 · rfl
 split<;>rfl
theorem beginN_who{x:ShapeM}{n:NodM}(h:beginN x=some n):n.who=(x.id,x.serial,false):=by
 unfold beginN at h;split at h
 · cases h
 split at h
 · cases h
 split at h
 · cases h
 rename_i h1 h2 h3
 cases h;have hf:=format_text x.sectors.toNat (by omega) (Classical.not_not.1 h2);revert h3;generalize (nodFormat (Dev.new x.sectors.toNat)).2=D at*;intro h3;unfold nodOpen at h3 ⊢;split
 · rename_i c;rw[if_pos c]at h3;exact absurd (show(1:Int)≠0 by decide) h3
 rename_i c1;rw[if_neg c1]at h3
 split
 · rename_i c;rw[if_pos c]at h3;exact absurd (fun h=>c h) h3
 rename_i c2;rw[if_neg c2]at h3
 split
 · rename_i c;rw[if_pos c]at h3;exact absurd (fun h=>c h) h3
 rename_i c3;rw[if_neg c3]at h3
 split
 · rename_i c;rw[if_pos c]at h3;exact absurd (fun h=>c h) h3
 unfold nodFact;rw[show(nodNew x.id x.serial x.lease x.patience x.blocks (openC D 0 1) (drlO D 2 3 x.blocks.toNat) (caOpen D 6 ((D.l.length:Int)- 6) 4 5 x.blocks).2.1 (caOpen D 6 ((D.l.length:Int)- 6) 4 5 x.blocks).2.2).f.text=(openC D 0 1).text from rfl,hf];exact boot_who _ _
end Go.Sl