/- A part of the proof: contracts and plain lemmas, each without conditions beyond those that it names. -/
import Derived.Test.YtebijajimmjknaaGreatW1
import Derived.Test.YtebijajimmjknaaGreatGH
import Derived.Test.YtebijajimmjknaaGreatCelH
set_option linter.unusedVariables false
set_option linter.unusedSimpArgs false
set_option linter.constructorNameAsVariable false
namespace Go.Proofs
open Go Go.Sl
namespace W
set_option linter.unusedVariables false
end W
end Go.Proofs
namespace Go.Proofs
open Go Go.Sl
namespace W
set_option linter.unusedVariables false
end W
end Go.Proofs
namespace Go.Proofs
open Go Go.Sl
namespace W
set_option linter.unusedVariables false
end W
end Go.Proofs
namespace Go.Proofs
open Go Go.Sl
namespace W
set_option linter.unusedVariables false
end W
end Go.Proofs
namespace Go.Sl
set_option linter.unusedSimpArgs false
def WitM.putR (W : WitM) (E : RDev) (f : FactM) : Int × WitM × RDev :=
  ((W.c.putR E (recB (factR f))).1, { W with c := (W.c.putR E (recB (factR f))).2.1, f := if (W.c.putR E (recB (factR f))).1 = 0 then f else W.f }, (W.c.putR E (recB (factR f))).2.2)
def WitM.askR (W : WitM) (E : RDev) (fr : Int) (m : MsgM) : Int × WitM × RDev :=
  if inM W.f.mask fr = false then (20, W, E) else
  if W.f.holder = fr ∧ m.seq = 0 ∧ m.epoch = W.f.epoch then (0, { W with left := W.wait }, E) else
  if W.f.holder ≠ fr ∧ 0 < W.left then (25, W, E) else
  if W.f.epoch = 4611686018427387904 then (22, W, E) else
  let r := W.putR E { W.f with epoch := W.f.epoch + 1, holder := fr, change := 0 }
  (r.1, if r.1 = 0 then { r.2.1 with left := r.2.1.wait } else r.2.1, r.2.2)
def WitM.changedR (W : WitM) (E : RDev) (fr : Int) (m : MsgM) : Int × WitM × RDev :=
  if W.f.holder ≠ fr ∨ m.epoch ≠ W.f.epoch then (20, W, E) else
  if within3 m.seq 1 3 = false ∨ inM m.seq fr = false then (1, W, E) else
  if m.n ≤ W.f.change then (0, W, E) else
  W.putR E { W.f with mask := m.seq, change := m.n }
def WitM.lostR (W : WitM) (E : RDev) (fr : Int) (m : MsgM) : Int × WitM × RDev :=
  if m.n ≤ W.f.loss fr then (0, W, E) else W.putR E (W.f.lose fr m.n)
def WitM.handleR (W : WitM) (E : RDev) (fr : Int) (m : MsgM) : Option (Int × WitM × RDev) :=
  if m.kind = 1 then some (W.askR E fr m) else if m.kind = 3 then some (W.changedR E fr m) else if m.kind = 4 then some (W.lostR E fr m) else none
def WitM.takeR (W : WitM) (E : RDev) (fr : Int) (m : MsgM) : (MsgM × Bool) × WitM × RDev :=
  if fr < 0 ∨ 1 < fr ∨ m.may = false then ((.zero, false), W, E) else
  match W.handleR E fr m with
  | none => ((.zero, false), W, E)
  | some r => if r.1 = 30 then ((.zero, false), r.2.1, r.2.2) else ((r.2.1.answer m r.1, true), r.2.1, r.2.2)
/-- The same on both sides. -/
structure Same3 (a : Int × WitM × Dev) (b : Int × WitM × RDev) : Prop where
  e : a.1 = b.1
  w : a.2.1 = b.2.1
  r : Rel a.2.2 b.2.2
theorem WitM.putR_rel {D : Dev} {E : RDev} (h : Rel D E) (W : WitM) (f : FactM) : Same3 (W.put D f) (W.putR E f) := by
  obtain ⟨h1, h2, h3⟩ := Go.Sl.putR_rel (C := W.c) h (recB (factR f))
  exact ⟨h1, by unfold WitM.put WitM.putR; dsimp only; rw [h1, h2], h3⟩
theorem set_wait {W : WitM} (h : 1 ≤ W.wait) : W.set = { W with left := W.wait } := by
  unfold WitM.set; rw [show max W.wait 0 = W.wait by omega]
theorem WitM.askR_rel {D : Dev} {E : RDev} (h : Rel D E) {W : WitM} (hw : 1 ≤ W.wait) (fr : Int) (m : MsgM) : Same3 (W.ask D fr m) (W.askR E fr m) := by
  unfold WitM.ask WitM.askR
  by_cases c1 : inM W.f.mask fr = false
  · rw [if_pos c1, if_pos c1]; exact ⟨rfl, rfl, h⟩
  rw [if_neg c1, if_neg c1]
  by_cases c2 : W.f.holder = fr ∧ m.seq = 0 ∧ m.epoch = W.f.epoch
  · rw [if_pos c2, if_pos c2]; exact ⟨rfl, set_wait hw, h⟩
  rw [if_neg c2, if_neg c2]
  by_cases c3 : W.f.holder ≠ fr ∧ 0 < W.left
  · rw [if_pos c3, if_pos c3]; exact ⟨rfl, rfl, h⟩
  rw [if_neg c3, if_neg c3]
  by_cases c4 : W.f.epoch = 4611686018427387904
  · rw [if_pos c4, if_pos c4]; exact ⟨rfl, rfl, h⟩
  rw [if_neg c4, if_neg c4]
  have hp := WitM.putR_rel h W { W.f with epoch := W.f.epoch + 1, holder := fr, change := 0 }
  dsimp only
  refine ⟨hp.e, ?_, hp.r⟩
  rw [← hp.e, ← hp.w]
  dsimp only
  by_cases c5 : (W.put D { W.f with epoch := W.f.epoch + 1, holder := fr, change := 0 }).1 = 0
  · rw [if_pos c5, if_pos c5]; exact set_wait hw
  · rw [if_neg c5, if_neg c5]
theorem WitM.changedR_rel {D : Dev} {E : RDev} (h : Rel D E) (W : WitM) (fr : Int) (m : MsgM) : Same3 (W.changed D fr m) (W.changedR E fr m) := by
  unfold WitM.changed WitM.changedR
  by_cases c1 : W.f.holder ≠ fr ∨ m.epoch ≠ W.f.epoch
  · rw [if_pos c1, if_pos c1]; exact ⟨rfl, rfl, h⟩
  rw [if_neg c1, if_neg c1]
  by_cases c2 : within3 m.seq 1 3 = false ∨ inM m.seq fr = false
  · rw [if_pos c2, if_pos c2]; exact ⟨rfl, rfl, h⟩
  rw [if_neg c2, if_neg c2]
  by_cases c3 : m.n ≤ W.f.change
  · rw [if_pos c3, if_pos c3]; exact ⟨rfl, rfl, h⟩
  rw [if_neg c3, if_neg c3]
  exact WitM.putR_rel h W _
theorem WitM.lostR_rel {D : Dev} {E : RDev} (h : Rel D E) (W : WitM) (fr : Int) (m : MsgM) : Same3 (W.lost D fr m) (W.lostR E fr m) := by
  unfold WitM.lost WitM.lostR
  by_cases c1 : m.n ≤ W.f.loss fr
  · rw [if_pos c1, if_pos c1]; exact ⟨rfl, rfl, h⟩
  rw [if_neg c1, if_neg c1]
  exact WitM.putR_rel h W _
theorem WitM.takeR_rel {D : Dev} {E : RDev} (h : Rel D E) {W : WitM} (hw : 1 ≤ W.wait) (fr : Int) (m : MsgM) :
    (W.take D fr m).1 = (W.takeR E fr m).1 ∧ (W.take D fr m).2.1 = (W.takeR E fr m).2.1 ∧ Rel (W.take D fr m).2.2 (W.takeR E fr m).2.2 := by
  unfold WitM.take WitM.takeR
  by_cases c1 : fr < 0 ∨ 1 < fr ∨ m.may = false
  · rw [if_pos c1, if_pos c1]; exact ⟨rfl, rfl, h⟩
  rw [if_neg c1, if_neg c1]
  have key : (W.handle D fr m = none ∧ W.handleR E fr m = none) ∨ ∃ x y, W.handle D fr m = some x ∧ W.handleR E fr m = some y ∧ Same3 x y := by
    unfold WitM.handle WitM.handleR
    by_cases k1 : m.kind = 1
    · rw [if_pos k1, if_pos k1]; exact .inr ⟨_, _, rfl, rfl, WitM.askR_rel h hw fr m⟩
    rw [if_neg k1, if_neg k1]
    by_cases k2 : m.kind = 3
    · rw [if_pos k2, if_pos k2]; exact .inr ⟨_, _, rfl, rfl, WitM.changedR_rel h W fr m⟩
    rw [if_neg k2, if_neg k2]
    by_cases k3 : m.kind = 4
    · rw [if_pos k3, if_pos k3]; exact .inr ⟨_, _, rfl, rfl, WitM.lostR_rel h W fr m⟩
    rw [if_neg k3, if_neg k3]; exact .inl ⟨rfl, rfl⟩
  rcases key with ⟨a, b⟩ | ⟨x, y, a, b, s⟩
  · rw [a, b]; exact ⟨rfl, rfl, h⟩
  · rw [a, b]
    dsimp only
    rw [← s.e, ← s.w]
    by_cases c5 : x.1 = 30
    · rw [if_pos c5, if_pos c5]; exact ⟨rfl, rfl, s.r⟩
    · rw [if_neg c5, if_neg c5]; exact ⟨rfl, rfl, s.r⟩
theorem WitM.take_ok {W : WitM} {D : Dev} (h : W.ok D) (fr : Int) (m : MsgM) : (W.take D fr m).2.1.ok (W.take D fr m).2.2 := by
  unfold WitM.take
  by_cases c1 : fr < 0 ∨ 1 < fr ∨ m.may = false
  · rw [if_pos c1]; exact h
  rw [if_neg c1]
  have hfr : fr = 0 ∨ fr = 1 := by omega
  have hm : m.may = true := by
    cases hq : m.may
    · exact absurd (.inr (.inr hq)) c1
    · rfl
  have hmo := MsgM.ok_of hm
  have ha : (W.ask D fr m).2.1.ok (W.ask D fr m).2.2 := by
    unfold WitM.ask
    split
    · exact h
    split
    · exact WitM.set_ok h
    split
    · exact h
    split
    · exact h
    rename_i c4
    have hp := WitM.put_ok h (askF_ok h hfr c4)
    dsimp only
    split
    · exact WitM.set_ok hp
    · exact hp
  have hb : (W.changed D fr m).2.1.ok (W.changed D fr m).2.2 := by
    unfold WitM.changed
    split
    · exact h
    split
    · exact h
    rename_i c2
    split
    · exact h
    rename_i c3
    simp only [not_or, Bool.not_eq_false] at c2
    exact WitM.put_ok h (changeF_ok h c2.1 c3 hmo.n.2)
  have hc : (W.lost D fr m).2.1.ok (W.lost D fr m).2.2 := by
    unfold WitM.lost
    split
    · exact h
    rename_i c3
    exact WitM.put_ok h (loseF_ok h hmo.n.1 hmo.n.2 c3)
  unfold WitM.handle
  split
  · rename_i hh
    exact h
  · rename_i r hh
    have hr : r.2.1.ok r.2.2 := by
      split at hh
      · cases hh; exact ha
      split at hh
      · cases hh; exact hb
      split at hh
      · cases hh; exact hc
      · cases hh
    split
    · exact hr
    · exact hr
theorem put_l' (W : WitM) (D : Dev) (f : FactM) : (W.put D f).2.2.l.length = D.l.length := put_l
theorem WitM.take_l {W : WitM} {D : Dev} (fr : Int) (m : MsgM) : (W.take D fr m).2.2.l.length = D.l.length := by
  have ha : (W.ask D fr m).2.2.l.length = D.l.length := by
    unfold WitM.ask
    split
    · rfl
    split
    · rfl
    split
    · rfl
    split
    · rfl
    exact put_l' _ _ _
  have hb : (W.changed D fr m).2.2.l.length = D.l.length := by
    unfold WitM.changed
    split
    · rfl
    split
    · rfl
    split
    · rfl
    exact put_l' _ _ _
  have hc : (W.lost D fr m).2.2.l.length = D.l.length := by
    unfold WitM.lost
    split
    · rfl
    exact put_l' _ _ _
  unfold WitM.take
  split
  · rfl
  unfold WitM.handle
  split
  · rfl
  · rename_i r hh
    have hr : r.2.2.l.length = D.l.length := by
      split at hh
      · cases hh; exact ha
      split at hh
      · cases hh; exact hb
      split at hh
      · cases hh; exact hc
      · cases hh
    split <;> exact hr
/-- A message that may be, condition by condition. -/
structure MayP (m : MsgM) : Prop where
  t0 : 0 ≤ m.t0 ∧ m.t0 ≤ 4611686018427387904
  t1 : 0 ≤ m.t1 ∧ m.t1 ≤ 4611686018427387904
  t2 : 0 ≤ m.t2 ∧ m.t2 ≤ 4611686018427387904
  t3 : 0 ≤ m.t3 ∧ m.t3 ≤ 4611686018427387904
  data : (m.data.length : Int) ≤ 40
  row : (m.row.length : Int) ≤ 10
  kind : 1 ≤ m.kind ∧ m.kind ≤ 15
  epoch : 0 ≤ m.epoch ∧ m.epoch ≤ 4611686018427387904
  seq : 0 ≤ m.seq ∧ m.seq ≤ 4611686018427387904
  n : -4611686018427387904 ≤ m.n ∧ m.n ≤ 4611686018427387904
  block : -1 ≤ m.block ∧ m.block ≤ 31
  client : -1 ≤ m.client ∧ m.client ≤ 3
  e : 0 ≤ m.e ∧ m.e ≤ 31
theorem may_P {m : MsgM} : m.may = true ↔ MayP m := by
  unfold MsgM.may within3
  simp only [Bool.and_eq_true, decide_eq_true_eq]
  constructor
  · intro h; exact ⟨by omega, by omega, by omega, by omega, by omega, by omega, by omega, by omega, by omega, by omega, by omega, by omega, by omega⟩
  · intro h; have a := h.t0; have b := h.t1; have c := h.t2; have d := h.t3; have e := h.data; have f := h.row; have g := h.kind; have i := h.epoch; have j := h.seq; have k := h.n; have l := h.block; have n := h.client; have o := h.e
    omega
def mayT (m : MsgM) (k : Nat) : Prop := ∀ z, z < k → 0 ≤ m.tn z ∧ m.tn z ≤ 4611686018427387904
theorem mayT_zero (m : MsgM) : mayT m 0 := fun z h => absurd h (by omega)
theorem mayT_succ {m : MsgM} {k : Nat} (h : mayT m k) (h2 : 0 ≤ m.tn k ∧ m.tn k ≤ 4611686018427387904) : mayT m (k + 1) := fun z hz => by
  by_cases e : z = k
  · subst e; exact h2
  · exact h z (by omega)
theorem mayT_no {m : MsgM} {k : Nat} (hk : k < 4) (h2 : ¬ (0 ≤ m.tn k ∧ m.tn k ≤ 4611686018427387904)) : m.may = false := by
  refine Bool.eq_false_iff.2 fun h => h2 ?_
  have p := may_P.1 h
  match k, hk with
  | 0, _ => exact p.t0
  | 1, _ => exact p.t1
  | 2, _ => exact p.t2
  | 3, _ => exact p.t3
theorem msg_tn (m : MsgM) {k : Nat} (hk : k < 4) : m.cells[0 + 7 + k * 1]? = some (.int .i64 (m.tn k)) := by
  match k, hk with
  | 0, _ => rfl
  | 1, _ => rfl
  | 2, _ => rfl
  | 3, _ => rfl
theorem w3f {n lo hi : Int} (h : within3 n lo hi = false) : ¬ (lo ≤ n ∧ n ≤ hi) := fun h2 => by rw [within3_iff.2 h2] at h; cases h
/-- The rest, where the table may be. -/
theorem may_rest {m : MsgM} (h : mayT m 4) : m.may = (decide (1 ≤ m.kind ∧ m.kind ≤ 15 ∧ (0 ≤ m.epoch ∧ m.epoch ≤ 4611686018427387904) ∧ (0 ≤ m.seq ∧ m.seq ≤ 4611686018427387904) ∧ (-4611686018427387904 ≤ m.n ∧ m.n ≤ 4611686018427387904) ∧ -1 ≤ m.block ∧ m.block ≤ 31 ∧ -1 ≤ m.client ∧ m.client ≤ 3 ∧ 0 ≤ m.e ∧ m.e ≤ 31 ∧ (m.data.length : Int) ≤ 40 ∧ (m.row.length : Int) ≤ 10)) := by
  have a := h 0 (by decide); have b := h 1 (by decide); have c := h 2 (by decide); have d := h 3 (by decide)
  rw [Bool.eq_iff_iff, may_P, decide_eq_true_eq]
  constructor
  · intro p; have e := p.data; have f := p.row; have g := p.kind; have i := p.epoch; have j := p.seq; have k := p.n; have l := p.block; have n := p.client; have o := p.e
    omega
  · intro p; exact ⟨a, b, c, d, by omega, by omega, by omega, by omega, by omega, by omega, by omega, by omega, by omega⟩
end Go.Sl
