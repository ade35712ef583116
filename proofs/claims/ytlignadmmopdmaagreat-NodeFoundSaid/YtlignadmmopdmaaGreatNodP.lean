/- A part of the proof. -/
import Derived.Test.YtlignadmmopdmaaGreatUn
import Derived.Test.YtlignadmmopdmaaGreatT16
import Derived.Test.YtlignadmmopdmaaGreatGG
import Derived.Test.YtlignadmmopdmaaGreatGE
import Derived.Test.YtlignadmmopdmaaGreatNodO
set_option linter.unusedVariables false
set_option linter.unusedSimpArgs false
set_option linter.constructorNameAsVariable false
namespace Go.Proofs
open Go Go.Sl
namespace W
end W
end Go.Proofs
namespace Go.Sl
/-- A message that may be, condition by condition. -/
structure NMayP(m:MsgM):Prop where
 t0:0≤m.t0∧m.t0≤4611686018427387904
 t1:0≤m.t1∧m.t1≤4611686018427387904
 t2:0≤m.t2∧m.t2≤4611686018427387904
 t3:0≤m.t3∧m.t3≤4611686018427387904
 data:(m.data.length:Int)≤40
 row:(m.row.length:Int)≤10
 kind:1≤m.kind∧m.kind≤15
 epoch:0≤m.epoch∧m.epoch≤4611686018427387904
 seq:0≤m.seq∧m.seq≤4611686018427387904
 n: -4611686018427387904≤m.n∧m.n≤4611686018427387904
 block: -1≤m.block∧m.block≤31
 client: -1≤m.client∧m.client≤3
 e:0≤m.e∧m.e≤31
theorem nmay_P{m:MsgM}:m.may=true↔NMayP m:=by
 unfold MsgM.may within3;simp only[Bool.and_eq_true,decide_eq_true_eq];constructor
 ·intro h;exact⟨by omega,by omega,by omega,by omega,by omega,by omega,by omega,by omega,by omega,by omega,by omega,by omega,by omega⟩
 ·intro h;have a:=h.t0;have b:=h.t1;have c:=h.t2;have d:=h.t3;have e:=h.data;have f:=h.row;have g:=h.kind;have i:=h.epoch;have j:=h.seq;have k:=h.n;have l:=h.block;have n:=h.client;have o:=h.e;omega
def nmayT(m:MsgM)(k:Nat):Prop:= ∀z,z<k→0≤m.tn z∧m.tn z≤4611686018427387904
theorem nmayT_zero(m:MsgM):nmayT m 0:=fun z h=>absurd h (by omega)
theorem nmayT_succ{m:MsgM}{k:Nat}(h:nmayT m k)(h2:0≤m.tn k∧m.tn k≤4611686018427387904):nmayT m (k+1):=fun z hz=>by
 by_cases e:z=k
 · subst e;exact h2
 · exact h z (by omega)
theorem nmayT_no{m:MsgM}{k:Nat}(hk:k<4)(h2: ¬(0≤m.tn k∧m.tn k≤4611686018427387904)):m.may=false:=by
 refine Bool.eq_false_iff.2 fun h=>h2 ?_
 have p:=nmay_P.1 h
 match k,hk with
 |0,_=>exact p.t0
 |1,_=>exact p.t1
 |2,_=>exact p.t2
 |3,_=>exact p.t3
theorem nmsg_tn(m:MsgM){k:Nat}(hk:k<4):m.cells[0+7+k*1]? =some (.int .i64 (m.tn k)):=by
 match k,hk with
 |0,_=>rfl
 |1,_=>rfl
 |2,_=>rfl
 |3,_=>rfl
theorem nw3f{n lo hi:Int}(h:within3 n lo hi=false): ¬(lo≤n∧n≤hi):=fun h2=>by rw[within3_iff.2 h2]at h;cases h
/-- The rest, where the table may be. -/
theorem nmay_rest{m:MsgM}(h:nmayT m 4):m.may=(decide (1≤m.kind∧m.kind≤15∧(0≤m.epoch∧m.epoch≤4611686018427387904)∧(0≤m.seq∧m.seq≤4611686018427387904)∧(-4611686018427387904≤m.n∧m.n≤4611686018427387904)∧ -1≤m.block∧m.block≤31∧ -1≤m.client∧m.client≤3∧0≤m.e∧m.e≤31∧(m.data.length:Int)≤40∧(m.row.length:Int)≤10)):=by
 have a:=h 0 (by decide);have b:=h 1 (by decide);have c:=h 2 (by decide);have d:=h 3 (by decide);rw[Bool.eq_iff_iff,nmay_P,decide_eq_true_eq];constructor
 ·intro p;have e:=p.data;have f:=p.row;have g:=p.kind;have i:=p.epoch;have j:=p.seq;have k:=p.n;have l:=p.block;have n:=p.client;have o:=p.e;omega
 ·intro p;exact⟨a,b,c,d,by omega,by omega,by omega,by omega,by omega,by omega,by omega,by omega,by omega⟩
end Go.Sl