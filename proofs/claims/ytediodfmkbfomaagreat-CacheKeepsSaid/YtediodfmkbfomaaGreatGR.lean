/- A part of the proof: contracts and plain lemmas, each without conditions beyond those that it names. -/
import Derived.Test.YtediodfmkbfomaaGreatGQ
import Derived.Test.YtediodfmkbfomaaGreatGO
import Derived.Test.YtediodfmkbfomaaGreatGL
set_option linter.unusedVariables false
set_option linter.unusedSimpArgs false
set_option linter.constructorNameAsVariable false
namespace Go.Sl
set_option linter.unusedSimpArgs false
/-- Where a cache lies. -/
structure CaPl where
  first : Int
  n : Nat
  a : Int
  b : Int
  N : Nat
  m : Nat
def tellV (m : Nat) (V : CaV) : List EntM × KeptM := ((List.range m).filterMap fun i : Nat => V.en i, V.k)
theorem told_view (C : CaM) : tellV C.bl C.view = (C.all, C.k) := rfl
/-- What a log's records say is among what was told. -/
def Says (P : CaPl) (W : List (List EntM × KeptM)) (h : Int) (l : List (Bytes × Int)) : Prop := ∃ V, replay P.m l h zeroV = some V ∧ tellV P.m V ∈ W
structure CX (P : CaPl) (k : Nat) (C : CaM) (D : Dev) (p : Nat) : Prop where
  ok : C.ok D
  lx : LX P.first P.n P.a P.b D P.N k C.l.head C.l.time C.l.least C.l.l p
  lg : C.l = ⟨P.first, P.n, openC D P.a P.b, C.l.head, C.l.time, C.l.least, C.l.l⟩
  bl : C.bl = P.m
  nn : C.n = P.n
  rp : replay P.m C.l.l C.l.head zeroV = some C.view
/-- A cache that goes on; what a crash would leave is among `W`. -/
structure CLive (P : CaPl) (k : Nat) (C : CaM) (D : Dev) (W : List (List EntM × KeptM)) : Prop where
  x : ∃ p, CX P k C D p ∧ ∀ q, p ≤ q → q ≤ C.l.l.length → Says P W C.l.head (C.l.l.take q)
  n8 : 8 ≤ P.n
/-- A device that is dead; what a crash would leave is among `W`. -/
structure CDead (P : CaPl) (k : Nat) (D : Dev) (W : List (List EntM × KeptM)) : Prop where
  ok : D.ok
  dead : D.dead = true
  len : D.l.length = P.N
  out : ∀ ks : Keeps, (∀ x ∈ ks, x.1 ≠ 2) → ∃ h T le l, LR P.first P.n P.a P.b (D.crash ks) P.N k h T le l ∧ Says P W h l
theorem Says.up {P : CaPl} {W W' : List (List EntM × KeptM)} {h : Int} {l : List (Bytes × Int)} (s : Says P W h l) (hw : ∀ x ∈ W, x ∈ W') : Says P W' h l := by
  obtain ⟨V, h1, h2⟩ := s; exact ⟨V, h1, hw _ h2⟩
theorem CX.up1 {P : CaPl} {k : Nat} {C : CaM} {D : Dev} {p : Nat} (g : CX P k C D p) : CX P (k + 1) C D p := ⟨g.ok, g.lx.up1, g.lg, g.bl, g.nn, g.rp⟩
theorem CLive.up1 {P : CaPl} {k : Nat} {C : CaM} {D : Dev} {W : List (List EntM × KeptM)} (g : CLive P k C D W) : CLive P (k + 1) C D W := by
  obtain ⟨⟨p, h1, h2⟩, h3⟩ := g; exact ⟨⟨p, h1.up1, h2⟩, h3⟩
theorem CLive.up {P : CaPl} {k : Nat} {C : CaM} {D : Dev} {W : List (List EntM × KeptM)} (g : CLive P k C D W) : ∀ j : Nat, CLive P (k + j) C D W
  | 0 => g
  | j + 1 => (g.up j).up1
theorem CLive.le {P : CaPl} {k k' : Nat} {C : CaM} {D : Dev} {W : List (List EntM × KeptM)} (g : CLive P k C D W) (h : k ≤ k') : CLive P k' C D W := by
  have := g.up (k' - k)
  rw [show k + (k' - k) = k' by omega] at this
  exact this
theorem CLive.more {P : CaPl} {k : Nat} {C : CaM} {D : Dev} {W W' : List (List EntM × KeptM)} (g : CLive P k C D W) (hw : ∀ x ∈ W, x ∈ W') : CLive P k C D W' := by
  obtain ⟨⟨p, h1, h2⟩, h3⟩ := g; exact ⟨⟨p, h1, fun q q1 q2 => (h2 q q1 q2).up hw⟩, h3⟩
theorem CDead.more {P : CaPl} {k : Nat} {D : Dev} {W W' : List (List EntM × KeptM)} (g : CDead P k D W) (hw : ∀ x ∈ W, x ∈ W') : CDead P k D W' :=
  ⟨g.ok, g.dead, g.len, fun ks hks => by obtain ⟨h, T, le, l, h1, h2⟩ := g.out ks hks; exact ⟨h, T, le, l, h1, h2.up hw⟩⟩
theorem CDead.up1 {P : CaPl} {k : Nat} {D : Dev} {W : List (List EntM × KeptM)} (g : CDead P k D W) : CDead P (k + 1) D W :=
  ⟨g.ok, g.dead, g.len, fun ks hks => by obtain ⟨h, T, le, l, h1, h2⟩ := g.out ks hks; exact ⟨h, T, le, l, h1.up1, h2⟩⟩
theorem CDead.up {P : CaPl} {k : Nat} {D : Dev} {W : List (List EntM × KeptM)} (g : CDead P k D W) : ∀ j : Nat, CDead P (k + j) D W
  | 0 => g
  | j + 1 => (g.up j).up1
theorem CDead.le {P : CaPl} {k k' : Nat} {D : Dev} {W : List (List EntM × KeptM)} (g : CDead P k D W) (h : k ≤ k') : CDead P k' D W := by
  have := g.up (k' - k)
  rw [show k + (k' - k) = k' by omega] at this
  exact this
/-- A cache that goes on, or whose device is dead. -/
def CGo (P : CaPl) (k : Nat) (C : CaM) (D : Dev) (W : List (List EntM × KeptM)) : Prop := CLive P k C D W ∨ CDead P k D W
theorem CGo.le {P : CaPl} {k k' : Nat} {C : CaM} {D : Dev} {W : List (List EntM × KeptM)} (g : CGo P k C D W) (h : k ≤ k') : CGo P k' C D W := g.imp (·.le h) (·.le h)
theorem CGo.more {P : CaPl} {k : Nat} {C : CaM} {D : Dev} {W W' : List (List EntM × KeptM)} (g : CGo P k C D W) (hw : ∀ x ∈ W, x ∈ W') : CGo P k C D W' := g.imp (·.more hw) (·.more hw)
theorem CX.now {P : CaPl} {k : Nat} {C : CaM} {D : Dev} {W : List (List EntM × KeptM)} (g : CLive P k C D W) : (C.all, C.k) ∈ W := by
  obtain ⟨⟨p, h1, h2⟩, _⟩ := g
  obtain ⟨V, h3, h4⟩ := h2 C.l.l.length h1.lx.pl (Nat.le_refl _)
  rw [List.take_length, h1.rp] at h3
  cases h3
  rw [← h1.bl, told_view] at h4
  exact h4
/-- What a crash leaves of one that goes on. -/
theorem CLive.crash {P : CaPl} {k : Nat} {C : CaM} {D D' : Dev} {W : List (List EntM × KeptM)} (g : CLive P k C D W) (hk : k < 4611686018427387000) (ht : Twin D' D) {ks : Keeps} (hks : ∀ x ∈ ks, x.1 ≠ 2) :
    ∃ h T le l, LR P.first P.n P.a P.b (D'.crash ks) P.N k h T le l ∧ Says P W h l := by
  obtain ⟨⟨p, h1, h2⟩, _⟩ := g
  obtain ⟨q, q1, q2, q3⟩ := h1.lx.crash hk ht hks
  exact ⟨_, _, _, _, q3, h2 q q1 q2⟩
theorem CLive.twin {P : CaPl} {k : Nat} {C : CaM} {D D' : Dev} {W : List (List EntM × KeptM)} (g : CLive P k C D W) (hk : k < 4611686018427387000) (ht : Twin D' D) (hd : D'.dead = true) : CDead P k D' W := by
  refine ⟨ht.ok, hd, ?_, fun ks hks => g.crash hk ht hks⟩
  obtain ⟨⟨p, h1, h2⟩, _⟩ := g
  rw [ht.l]; exact h1.lx.aw.len
/-- A record is added. -/
theorem CLive.add {P : CaPl} {k : Nat} {C : CaM} {D : Dev} {W : List (List EntM × KeptM)} (g : CLive P k C D W) (hk : k < 4611686018427387000) {r : CrecM} (hr : r.ok P.m) :
    ((C.add D r).1 = 0 ∧ (∀ W', (∀ x ∈ W, x ∈ W') → ((C.add D r).2.1.all, (C.add D r).2.1.k) ∈ W' → CLive P (k + 1) (C.add D r).2.1 (C.add D r).2.2 W') ∧ (C.add D r).2.1.view = C.view.does r C.l.tail ∧ (C.add D r).2.1.l.l.length = C.l.l.length + 1 ∧ (C.add D r).2.1.l.head = C.l.head) ∨
    ((C.add D r).1 = 12 ∧ (C.add D r).2 = (C, D)) ∨ ((C.add D r).1 = 30 ∧ (C.add D r).2.1 = C ∧ CDead P k (C.add D r).2.2 W) := by
  have g0 := g
  obtain ⟨⟨p, g, hS⟩, n8⟩ := g
  have hm32 : P.m ≤ 32 := by have h1 := g.ok.bl; have h2 := g.bl; omega
  have hlen := rec_len hm32 hr
  by_cases hf : C.l.l.length < P.n
  · rcases g.lx.append hk (s := recB r.rc) hlen hf with ⟨D', e1, e2⟩ | ⟨D', e1, e2, e3⟩
    · left
      rw [← g.lg] at e1
      have hadd : C.add D r = (0, CaM.does { C with l := ⟨P.first, P.n, openC D' P.a P.b, C.l.head, C.l.time, C.l.least, C.l.l ++ [(recB r.rc, C.l.time)]⟩ } r C.l.tail, D') := by
        unfold CaM.add
        rw [e1]
        simp
      have hok := g.ok.add (r := r) (by rw [g.bl]; exact hr)
      rw [hadd] at hok ⊢
      generalize hL : (⟨P.first, P.n, openC D' P.a P.b, C.l.head, C.l.time, C.l.least, C.l.l ++ [(recB r.rc, C.l.time)]⟩ : LogM) = L at *
      obtain ⟨d1, d2, d3⟩ := CaM.does_l { C with l := L } r C.l.tail
      have hv := view_does (C := { C with l := L }) ⟨g.ok.m.e, g.ok.m.p⟩ r C.l.tail
      have hv0 : ({ C with l := L } : CaM).view = C.view := rfl
      rw [hv0] at hv
      have hrp : replay P.m L.l L.head zeroV = some (CaM.does { C with l := L } r C.l.tail).view := by
        rw [hv, ← hL]
        exact replay_snoc _ _ _ _ _ _ g.rp (readC_rec hm32 hr)
      have hll : L.l = C.l.l ++ [(recB r.rc, C.l.time)] := by rw [← hL]
      have hhd : L.head = C.l.head := by rw [← hL]
      refine ⟨rfl, fun W' hw hin => ⟨⟨p, ⟨hok, ?_, ?_, by rw [d2]; exact g.bl, by rw [d3]; exact g.nn, by rw [d1]; exact hrp⟩, fun q q1 q2 => ?_⟩, n8⟩, hv, ?_, ?_⟩
      · rw [d1, ← hL]; exact e2
      · rw [d1, ← hL]
      · rw [d1] at q2 ⊢
        rw [hll] at q2 ⊢
        rw [hhd]
        rw [List.length_append, List.length_singleton] at q2
        by_cases hq : q ≤ C.l.l.length
        · rw [List.take_append_of_le_length hq]
          exact (hS q q1 hq).up hw
        · rw [List.take_of_length_le (by simp; omega), ← hll, ← hhd]
          refine ⟨_, hrp, ?_⟩
          have h0 := told_view (CaM.does { C with l := L } r C.l.tail)
          rw [show (CaM.does { C with l := L } r C.l.tail).bl = P.m from d2.trans g.bl] at h0
          rw [h0]; exact hin
      · rw [d1, hll]; simp
      · rw [d1, hhd]
    · right; right
      rw [← g.lg] at e1
      have hadd : C.add D r = (30, C, D') := by
        unfold CaM.add
        rw [e1]
        simp
      rw [hadd]
      exact ⟨rfl, rfl, g0.twin hk e3 e2⟩
  · right; left
    have hn : C.l.n = P.n := by rw [g.lg]
    have hll := g.lx.ll
    have e1 : C.l.append D (recB r.rc) = (12, C.l, D) := by
      unfold LogM.append
      rw [if_neg (by omega), if_pos (by omega)]
    have hadd : C.add D r = (12, C, D) := by
      unfold CaM.add
      rw [e1]
      simp
    rw [hadd]
    exact ⟨rfl, rfl⟩
/-- The first record is let go, where it isn't needed. -/
theorem CLive.cut {P : CaPl} {k : Nat} {C : CaM} {D : Dev} {W : List (List EntM × KeptM)} (g : CLive P k C D W) (hk : k < 4611686018427387000) (hl : 2 ≤ C.l.l.length) (hn : ∀ i, aget C.pu i ≠ some C.l.head) :
    ((C.cut D (C.l.head + 1)).1 = 0 ∧ CLive P (k + 1) (C.cut D (C.l.head + 1)).2.1 (C.cut D (C.l.head + 1)).2.2 W ∧ ∃ L', (C.cut D (C.l.head + 1)).2.1 = { C with l := L' } ∧ L'.head = C.l.head + 1 ∧ L'.l.length + 1 = C.l.l.length ∧ L'.tail = C.l.tail) ∨
    ((C.cut D (C.l.head + 1)).1 = 30 ∧ (C.cut D (C.l.head + 1)).2.1 = C ∧ CDead P (k + 1) (C.cut D (C.l.head + 1)).2.2 W) := by
  have g0 := g
  have hnow := CX.now g
  obtain ⟨⟨p, g, hS⟩, n8⟩ := g
  have e1' : (C.l.head + 1 - C.l.head).toNat = 1 := by omega
  have hrp : replay P.m (C.l.l.drop 1) (C.l.head + 1) zeroV = some C.view := by
    have h := g.rp
    cases hL : C.l.l with
    | nil => rw [hL] at hl; simp at hl
    | cons x l =>
      rw [hL] at h hl
      refine replay_tail (x := x) (l := l) (fun e => ?_) h hn
      subst e; simp at hl
  have htold : tellV P.m C.view = (C.all, C.k) := by rw [← g.bl, told_view]
  rcases g.lx.trim hk (m := C.l.head + 1) ⟨by omega, by omega⟩ with ⟨D', le', e1, e2⟩ | ⟨D', e1, e2, e3⟩
  · left
    rw [← g.lg, e1'] at e1
    rw [e1'] at e2
    have hct : C.cut D (C.l.head + 1) = (0, { C with l := ⟨P.first, P.n, openC D' P.a P.b, C.l.head + 1, C.l.time, le', C.l.l.drop 1⟩ }, D') := by unfold CaM.cut; rw [e1]
    have hok := g.ok.cut (C.l.head + 1)
    rw [hct] at hok ⊢
    refine ⟨rfl, ⟨⟨(C.l.l.drop 1).length, ⟨hok, e2, rfl, g.bl, g.nn, hrp⟩, fun q q1 q2 => ?_⟩, n8⟩, _, rfl, rfl, ?_, ?_⟩
    · have hq : q = (C.l.l.drop 1).length := Nat.le_antisymm q2 q1
      subst hq
      show Says P W (C.l.head + 1) ((C.l.l.drop 1).take (C.l.l.drop 1).length)
      rw [List.take_length]
      exact ⟨_, hrp, by rw [htold]; exact hnow⟩
    · simp only [List.length_drop]; omega
    · unfold LogM.tail; simp only [List.length_drop]; omega
  · right
    rw [← g.lg] at e1
    have hct : C.cut D (C.l.head + 1) = (30, C, D') := by unfold CaM.cut; rw [e1]
    rw [hct]
    refine ⟨rfl, rfl, ?_⟩
    rcases e3 with e3 | ⟨le', ⟨e3⟩⟩
    · exact (g0.twin hk e3 e2).up1
    · refine ⟨e3.half.ok, e2, by rw [e3.half.l]; exact e3.lv.len, fun ks hks => ?_⟩
      rcases e3.crash hk hks with q | q
      · exact ⟨_, _, _, _, q.up1, _, g.rp, by rw [htold]; exact hnow⟩
      · rw [e1'] at q
        exact ⟨_, _, _, _, q, _, hrp, by rw [htold]; exact hnow⟩
end Go.Sl
namespace Go.Sl
set_option linter.unusedSimpArgs false
theorem again_facts {C C' : CaM} {D : Dev} (h : C.ok D) {x : EntM} (hnd : C.needed = some x) (e3 : C'.view = C.view.does ⟨.put x, C.k⟩ C.l.tail) (hht : C.l.head < C.l.tail) :
    (∀ i, aget C'.en i = aget C.en i) ∧ C'.k = C.k ∧ (∀ i, aget C'.pu i ≠ some C.l.head) := by
  obtain ⟨hxo, hxg⟩ := h.need hnd
  have hpu : ∀ i, aget C'.pu i = if i = x.blk then some C.l.tail else aget C.pu i := fun i => by
    have : C'.view.pu i = (C.view.does ⟨.put x, C.k⟩ C.l.tail).pu i := by rw [e3]
    exact this
  have hkey : aget C.pu x.blk = some C.l.head := by
    unfold CaM.needed at hnd
    obtain ⟨y, hy, e⟩ := Option.map_eq_some_iff.1 hnd
    have hm := List.mem_of_find?_eq_some hy
    have hv := List.find?_some hy
    simp only [decide_eq_true_eq] at hv
    have hk2 := h.keys y.1
    rw [ahas_iff.2 ⟨y, hm, rfl⟩, ahas_get] at hk2
    obtain ⟨z, hz⟩ := Option.isSome_iff_exists.1 hk2.symm
    rw [hz, Option.getD_some] at e
    have := (ok_get h hz).2
    rw [← e, this, ← hv]
    exact aget_mem h.m.p hm
  have huniq : ∀ i, aget C.pu i = some C.l.head → i = x.blk := fun i hi => by
    obtain ⟨b1, h1⟩ := aget_some hi
    obtain ⟨b2, h2⟩ := aget_some hkey
    have f1 := find_val h.pn h1 rfl
    have f2 := find_val h.pn h2 rfl
    rw [f1] at f2
    simp only [Option.some.injEq, Prod.mk.injEq] at f2
    exact f2.1
  refine ⟨fun i => ?_, ?_, fun i hi => ?_⟩
  · have : C'.view.en i = (C.view.does ⟨.put x, C.k⟩ C.l.tail).en i := by rw [e3]
    refine this.trans ?_
    show (if i = x.blk then some x else aget C.en i) = aget C.en i
    by_cases hi : i = x.blk
    · rw [if_pos hi, hi, hxg]
    · rw [if_neg hi]
  · have : C'.view.k = (C.view.does ⟨.put x, C.k⟩ C.l.tail).k := by rw [e3]
    exact this
  · rw [hpu] at hi
    by_cases hx : i = x.blk
    · rw [if_pos hx] at hi
      simp only [Option.some.injEq] at hi
      omega
    · rw [if_neg hx] at hi
      exact hx (huniq i hi)
theorem told_same {C C' : CaM} (hb : C'.bl = C.bl) (h : ∀ i, aget C'.en i = aget C.en i) (hk : C'.k = C.k) : (C'.all, C'.k) = (C.all, C.k) := by rw [all_congr hb h, hk]
variable {P : CaPl} {k : Nat} {C : CaM} {D : Dev} {W : List (List EntM × KeptM)}
theorem CLive.ok (g : CLive P k C D W) : C.ok D ∧ C.bl = P.m ∧ C.n = P.n ∧ C.l.n = P.n ∧ 8 ≤ P.n ∧ P.n ≤ 512 := by
  obtain ⟨⟨p, h, _⟩, h8⟩ := g
  have := h.lx.lim
  exact ⟨h.ok, h.bl, h.nn, by rw [h.lg], h8, by omega⟩
theorem CLive.again (g : CLive P k C D W) (hk : k < 4611686018427387000) (hl : 1 ≤ C.l.l.length) :
    ((C.again D).1 = 0 ∧ CLive P (k + 1) (C.again D).2.1 (C.again D).2.2 W ∧ (∀ i, aget (C.again D).2.1.en i = aget C.en i) ∧ (C.again D).2.1.k = C.k ∧ (C.again D).2.1.l.head = C.l.head ∧ C.l.l.length ≤ (C.again D).2.1.l.l.length ∧ ∀ i, aget (C.again D).2.1.pu i ≠ some C.l.head) ∨
    (¬ (C.again D).1 = 0 ∧ (C.again D).2.1 = C ∧ CGo P (k + 1) C (C.again D).2.2 W) := by
  have hht : C.l.head < C.l.tail := by unfold LogM.tail; omega
  obtain ⟨hok, hb, -⟩ := g.ok
  unfold CaM.again
  cases hnd : C.needed with
  | none =>
    left
    refine ⟨rfl, g.up1, fun _ => rfl, rfl, rfl, Nat.le_refl _, fun i hi => ?_⟩
    obtain ⟨b, hb⟩ := aget_some hi
    rw [needed_some hok.pn hb rfl] at hnd
    cases hnd
  | some x =>
    dsimp only
    obtain ⟨hxo, hxg⟩ := hok.need hnd
    rw [hb] at hxo
    rcases g.add hk (r := ⟨.put x, C.k⟩) ⟨hxo, hok.k⟩ with ⟨e1, e2, e3, e4, e5⟩ | ⟨e1, e2⟩ | ⟨e1, e2, e3⟩
    · left
      obtain ⟨a1, a2, a3⟩ := again_facts hok hnd e3 hht
      refine ⟨e1, e2 W (fun _ h => h) ?_, a1, a2, e5, by omega, a3⟩
      rw [told_same CaM.add_bl.1 a1 a2]; exact CX.now g
    · right
      exact ⟨by rw [e1]; decide, by rw [e2], by rw [e2]; exact .inl g.up1⟩
    · right
      exact ⟨by rw [e1]; decide, e2, .inr e3.up1⟩
theorem CLive.mkF : ∀ (f : Nat) {k : Nat} {C : CaM} {D : Dev}, CLive P k C D W → k + 2 * f < 4611686018427387000 →
    (∀ i, aget (CaM.mkF f C D).2.1.en i = aget C.en i) ∧ (CaM.mkF f C D).2.1.k = C.k ∧ CGo P (k + 2 * f) (CaM.mkF f C D).2.1 (CaM.mkF f C D).2.2 W ∧ ((CaM.mkF f C D).1 = 0 → CLive P (k + 2 * f) (CaM.mkF f C D).2.1 (CaM.mkF f C D).2.2 W)
  | 0, k, C, D, g, hk => ⟨fun _ => rfl, rfl, .inl g, fun _ => g⟩
  | f + 1, k, C, D, g, hk => by
    obtain ⟨hok, hb, hn, hln, h8, h512⟩ := g.ok
    unfold CaM.mkF
    by_cases hfr : 4 ≤ C.free
    · rw [if_pos hfr]
      exact ⟨fun _ => rfl, rfl, .inl (g.le (by omega)), fun _ => g.le (by omega)⟩
    rw [if_neg hfr]
    have hl : 5 ≤ C.l.l.length := by unfold CaM.free at hfr; omega
    rcases g.again (by omega) (by omega) with ⟨e1, e2, e3, e4, e5, e6, e7⟩ | ⟨e1, e2, e3⟩
    · rw [if_neg (by rw [e1]; exact fun h => h rfl)]
      rcases e2.cut (by omega) (by omega) (by rw [e5]; exact e7) with ⟨q1, q2, L', q3, q4, q5, q6⟩ | ⟨q1, q2, q3⟩
      · rw [e5] at q1 q2 q3
        rw [if_neg (by rw [q1]; exact fun h => h rfl)]
        obtain ⟨i1, i2, i3, i4⟩ := CLive.mkF f q2 (by omega)
        rw [show k + 2 * (f + 1) = k + 1 + 1 + 2 * f by omega]
        refine ⟨fun i => (i1 i).trans ?_, i2.trans ?_, i3, i4⟩
        · rw [q3]; exact e3 i
        · rw [q3]; exact e4
      · rw [e5] at q1 q2 q3
        rw [if_pos (by rw [q1]; decide)]
        refine ⟨fun i => by rw [q2]; exact e3 i, by rw [q2]; exact e4, .inr (q3.le (by omega)), fun h => by rw [q1] at h; cases h⟩
    · rw [if_pos e1]
      exact ⟨fun i => by rw [e2], by rw [e2], by rw [e2]; exact e3.le (by omega), fun h => absurd h e1⟩
/-- What comes of a record that is laid. -/
structure Came (P : CaPl) (k : Nat) (W : List (List EntM × KeptM)) (C : CaM) (r : CrecM) (w : Int × CaM × Dev) : Prop where
  yes : w.1 = 0 → (∀ i, aget w.2.1.en i = effE (aget C.en) r.w i) ∧ w.2.1.k = r.k ∧ ∀ W', (∀ x ∈ W, x ∈ W') → (w.2.1.all, w.2.1.k) ∈ W' → CLive P k w.2.1 w.2.2 W'
  no : ¬ w.1 = 0 → (∀ i, aget w.2.1.en i = aget C.en i) ∧ w.2.1.k = C.k ∧ CGo P k w.2.1 w.2.2 W
theorem CLive.added (g : CLive P k C D W) (hk : k < 4611686018427387000) {r : CrecM} (hr : r.ok P.m) : Came P (k + 1) W C r (C.add D r) := by
  rcases g.add hk hr with ⟨e1, e2, e3, e4, e5⟩ | ⟨e1, e2⟩ | ⟨e1, e2, e3⟩
  · refine ⟨fun _ => ⟨fun i => ?_, ?_, e2⟩, fun h => absurd e1 h⟩
    · have : (C.add D r).2.1.view.en i = (C.view.does r C.l.tail).en i := by rw [e3]
      exact this
    · have : (C.add D r).2.1.view.k = (C.view.does r C.l.tail).k := by rw [e3]
      exact this
  · refine ⟨fun h => (by rw [e1] at h; cases h), fun _ => ?_⟩
    rw [e2]; exact ⟨fun _ => rfl, rfl, .inl g.up1⟩
  · refine ⟨fun h => (by rw [e1] at h; cases h), fun _ => ?_⟩
    rw [e2]; exact ⟨fun _ => rfl, rfl, .inr e3.up1⟩
theorem CLive.come (g : CLive P k C D W) (hk : k + 2000 < 4611686018427387000) {r : CrecM} (hr : r.ok P.m) : Came P (k + 1100) W C r (C.come D r) := by
  obtain ⟨hok, hb, hn, hln, h8, h512⟩ := g.ok
  obtain ⟨a1, a2, a3, a4⟩ := CLive.mkF C.n g (by rw [hn]; omega)
  rw [hn] at a1 a2 a3 a4
  unfold CaM.come CaM.make
  rw [hn]
  by_cases c : (CaM.mkF P.n C D).1 = 0
  · rw [if_neg (by rw [c]; exact fun h => h rfl)]
    have hc := (a4 c).added (by omega) hr
    refine ⟨fun h => ?_, fun h => ?_⟩
    · obtain ⟨q1, q2, q3⟩ := hc.yes h
      refine ⟨fun i => ?_, q2, fun W' hw hin => (q3 W' hw hin).le (by omega)⟩
      rw [q1]
      rw [show aget (CaM.mkF P.n C D).2.1.en = aget C.en from funext a1]
    · obtain ⟨q1, q2, q3⟩ := hc.no h
      exact ⟨fun i => (q1 i).trans (a1 i), q2.trans a2, q3.le (by omega)⟩
  · rw [if_pos c]
    exact ⟨fun h => absurd h c, fun _ => ⟨a1, a2, a3.le (by omega)⟩⟩
/-- Behind an act: what is told is among `W'`. -/
theorem Came.go {k : Nat} {C : CaM} {r : CrecM} {w : Int × CaM × Dev} (h : Came P k W C r w) {W' : List (List EntM × KeptM)} (hw : ∀ x ∈ W, x ∈ W') (hin : (w.2.1.all, w.2.1.k) ∈ W') : CGo P k w.2.1 w.2.2 W' := by
  by_cases c : w.1 = 0
  · exact .inl ((h.yes c).2.2 W' hw hin)
  · exact (h.no c).2.2.more hw
theorem all_drop {C C' : CaM} {D : Dev} (h : C.ok D) (hb : C'.bl = C.bl) {b : Int} (he : ∀ i, aget C'.en i = if i = b then none else aget C.en i) : C'.all = C.all.filter fun x => decide (x.blk ≠ b) := by
  unfold CaM.all
  rw [hb]
  generalize C.bl = m
  induction m with
  | zero => rfl
  | succ m ih =>
    rw [allTo_succ, allTo_succ, he, ih]
    by_cases e : (m : Int) = b
    · rw [if_pos e]
      cases hg : aget C.en (m : Nat) with
      | none => rfl
      | some x =>
        dsimp only
        have := (ok_get h hg).2
        rw [List.filter_append]
        simp [this, e]
    · rw [if_neg e]
      cases hg : aget C.en (m : Nat) with
      | none => rfl
      | some x =>
        dsimp only
        have := (ok_get h hg).2
        rw [List.filter_append]
        simp [this, e]
def without (l : List EntM) (b : Int) : List EntM := l.filter fun x => decide (x.blk ≠ b)
/-- Would an entry go for this one's? -/
def fullB (C : CaM) (b : Int) : Bool := !(aget C.en b).isSome && decide ((C.n : Int) - 6 ≤ (C.all.length : Int))
def midsM (C : CaM) : List (List EntM × KeptM) := (C.all.filter fun y => !y.dirty).map fun y => (without C.all y.blk, C.k)
theorem en_all {C : CaM} {D : Dev} (h : C.ok D) : C.en.length = C.all.length := by rw [en_len h, all_cnt]
theorem CLive.put (g : CLive P k C D W) (hk : k + 4000 < 4611686018427387000) {x : EntM} {W' : List (List EntM × KeptM)} (hw : ∀ y ∈ W, y ∈ W') (hm : fullB C x.blk = true → ∀ y ∈ midsM C, y ∈ W') (hin : ((C.put D x).2.1.all, (C.put D x).2.1.k) ∈ W') :
    CGo P (k + 2200) (C.put D x).2.1 (C.put D x).2.2 W' := by
  obtain ⟨hok, hb, hn, hln, h8, h512⟩ := g.ok
  have g0 : CGo P (k + 2200) C D W' := .inl ((g.le (by omega)).more hw)
  unfold CaM.put at hin ⊢
  by_cases c1 : inB C.bl x.blk = false
  · rw [if_pos c1]; exact g0
  rw [if_neg c1] at hin ⊢
  by_cases c2 : ¬ (x.data.length : Int) = 8
  · rw [if_pos c2]; exact g0
  rw [if_neg c2] at hin ⊢
  by_cases c3 : badPut C x = true
  · rw [if_pos c3]; exact g0
  rw [if_neg c3] at hin ⊢
  have hxo := (bad_no (by simpa using c1) (by omega) (by simpa using c3)).1
  have hro : CrecM.ok P.m ⟨.put x, putK C.k x⟩ := ⟨by rw [← hb]; exact hxo, putK_ok hok.k hxo⟩
  by_cases c4 : (aget C.en x.blk).isSome = true ∨ (C.en.length : Int) < (C.n : Int) - 6
  · rw [if_pos c4] at hin ⊢
    exact ((g.come (by omega) hro).go hw hin).le (by omega)
  rw [if_neg c4] at hin ⊢
  by_cases c5 : C.spare.2 = false
  · rw [if_pos c5]; exact g0
  rw [if_neg c5] at hin ⊢
  have hs : C.spare.2 = true := by simpa using c5
  obtain ⟨y, y1, y2, y3⟩ := spare_some hs
  have hdo : CrecM.ok P.m ⟨.drop C.spare.1, C.k⟩ := ⟨by rw [← hb]; exact spare_ok hok hs, hok.k⟩
  have hc := g.come (r := ⟨.drop C.spare.1, C.k⟩) (by omega) hdo
  by_cases c6 : (C.come D ⟨.drop C.spare.1, C.k⟩).1 = 0
  · rw [if_neg (fun h => h c6)] at hin ⊢
    obtain ⟨q1, q2, q3⟩ := hc.yes c6
    have hbl : (C.come D ⟨.drop C.spare.1, C.k⟩).2.1.bl = C.bl := CaM.come_bl.1
    have hall : (C.come D ⟨.drop C.spare.1, C.k⟩).2.1.all = without C.all y.blk := by
      rw [all_drop hok hbl (b := C.spare.1) (fun i => q1 i), y3]; rfl
    have hmid : ((C.come D ⟨.drop C.spare.1, C.k⟩).2.1.all, (C.come D ⟨.drop C.spare.1, C.k⟩).2.1.k) ∈ W' := by
      rw [hall, q2]
      refine hm ?_ _ (List.mem_map.2 ⟨y, List.mem_filter.2 ⟨y1, by rw [y2]; rfl⟩, rfl⟩)
      unfold fullB
      rw [← en_all hok]
      simp only [not_or] at c4
      rw [Bool.and_eq_true, decide_eq_true_eq]
      exact ⟨by simpa using c4.1, by omega⟩
    have hL := q3 W' hw hmid
    exact ((hL.added (by omega) hro).go (fun _ h => h) hin).le (by omega)
  · rw [if_pos c6] at hin ⊢
    exact ((hc.no c6).2.2.more hw).le (by omega)
end Go.Sl
namespace Go.Sl
set_option linter.unusedSimpArgs false
variable {P : CaPl} {k : Nat} {C : CaM} {D : Dev} {W W' : List (List EntM × KeptM)}
theorem CLive.clean (g : CLive P k C D W) (hk : k + 4000 < 4611686018427387000) {b e s : Int} (hw : ∀ y ∈ W, y ∈ W') (hin : ((C.clean D b e s).2.1.all, (C.clean D b e s).2.1.k) ∈ W') : CGo P (k + 2200) (C.clean D b e s).2.1 (C.clean D b e s).2.2 W' := by
  obtain ⟨hok, hb, hn, hln, h8, h512⟩ := g.ok
  have g0 : CGo P (k + 2200) C D W' := .inl ((g.le (by omega)).more hw)
  unfold CaM.clean at hin ⊢
  cases hg : aget C.en b with
  | none => exact g0
  | some y =>
    rw [hg] at hin
    dsimp only at hin ⊢
    by_cases c1 : ¬ (y.ve = e ∧ y.vs = s)
    · rw [if_pos c1]; exact g0
    rw [if_neg c1] at hin ⊢
    by_cases c2 : y.dirty = false
    · rw [if_pos c2]; exact g0
    rw [if_neg c2] at hin ⊢
    obtain ⟨h1, h2⟩ := ok_get hok hg
    have hro : CrecM.ok P.m ⟨.clean b e s, C.k⟩ := by
      have c1 : y.ve = e ∧ y.vs = s := by simpa using c1
      refine ⟨?_, hok.k⟩
      rw [← hb]
      refine ⟨by rw [← h2]; exact h1.blk, by rw [← c1.1]; exact h1.ve, by rw [← c1.2]; exact h1.vs⟩
    exact ((g.come (by omega) hro).go hw hin).le (by omega)
theorem CLive.drop (g : CLive P k C D W) (hk : k + 4000 < 4611686018427387000) {b : Int} (hw : ∀ y ∈ W, y ∈ W') (hin : ((C.drop D b).2.1.all, (C.drop D b).2.1.k) ∈ W') : CGo P (k + 2200) (C.drop D b).2.1 (C.drop D b).2.2 W' := by
  obtain ⟨hok, hb, hn, hln, h8, h512⟩ := g.ok
  have g0 : CGo P (k + 2200) C D W' := .inl ((g.le (by omega)).more hw)
  unfold CaM.drop at hin ⊢
  by_cases c : (aget C.en b).isSome = true
  · rw [if_pos c] at hin ⊢
    obtain ⟨y, hy⟩ := Option.isSome_iff_exists.1 c
    obtain ⟨h1, h2⟩ := ok_get hok hy
    have hro : CrecM.ok P.m ⟨.drop b, C.k⟩ := ⟨by rw [← hb, ← h2]; exact h1.blk, hok.k⟩
    exact ((g.come (by omega) hro).go hw hin).le (by omega)
  · rw [if_neg c]; exact g0
theorem CLive.reset (g : CLive P k C D W) (hk : k + 4000 < 4611686018427387000) {e s : Int} {ns : List Int} (hw : ∀ y ∈ W, y ∈ W') (hin : ((C.reset D e s ns).2.1.all, (C.reset D e s ns).2.1.k) ∈ W') : CGo P (k + 2200) (C.reset D e s ns).2.1 (C.reset D e s ns).2.2 W' := by
  obtain ⟨hok, hb, hn, hln, h8, h512⟩ := g.ok
  have g0 : CGo P (k + 2200) C D W' := .inl ((g.le (by omega)).more hw)
  unfold CaM.reset at hin ⊢
  by_cases c : wrongV e s ns = true
  · rw [if_pos c]; exact g0
  rw [if_neg c] at hin ⊢
  obtain ⟨he, hs, a, b, c', d, rfl, h1, h2, h3, h4⟩ := wrong_no (by simpa using c)
  have hro : CrecM.ok P.m ⟨.note, ⟨e, s, t4Of [a, b, c', d]⟩⟩ := ⟨trivial, ⟨he, hs, h1, h2, h3, h4⟩⟩
  exact ((g.come (by omega) hro).go hw hin).le (by omega)
theorem CLive.note (g : CLive P k C D W) (hk : k + 4000 < 4611686018427387000) {e s : Int} {ns : List Int} (hw : ∀ y ∈ W, y ∈ W') (hin : ((C.note D e s ns).2.1.all, (C.note D e s ns).2.1.k) ∈ W') : CGo P (k + 2200) (C.note D e s ns).2.1 (C.note D e s ns).2.2 W' := by
  obtain ⟨hok, hb, hn, hln, h8, h512⟩ := g.ok
  have g0 : CGo P (k + 2200) C D W' := .inl ((g.le (by omega)).more hw)
  unfold CaM.note at hin ⊢
  by_cases c : wrongV e s ns = true
  · rw [if_pos c]; exact g0
  rw [if_neg c] at hin ⊢
  obtain ⟨he, hs, a, b, c', d, rfl, h1, h2, h3, h4⟩ := wrong_no (by simpa using c)
  have hro : CrecM.ok P.m ⟨.note, noteK C.k e s (t4Of [a, b, c', d])⟩ := ⟨trivial, noteK_ok hok.k he hs h1 h2 h3 h4⟩
  exact ((g.come (by omega) hro).go hw hin).le (by omega)
theorem CLive.sync (g : CLive P k C D W) (hk : k < 4611686018427387000) :
    (C.sync D).2.1 = C ∧ (((C.sync D).1 = 0 ∧ CLive P k C (C.sync D).2.2 [(C.all, C.k)]) ∨ (¬ (C.sync D).1 = 0 ∧ CDead P k (C.sync D).2.2 W)) := by
  refine ⟨rfl, ?_⟩
  have g0 := g
  obtain ⟨⟨p, h, hS⟩, h8⟩ := g
  rcases h.lx.sync hk with ⟨b0, b1, b2, b3⟩ | ⟨b0, b1, b2⟩
  · left
    refine ⟨b0, ⟨C.l.l.length, ⟨?_, b2, h.lg.trans (by rw [show openC (C.sync D).2.2 P.a P.b = openC D P.a P.b from b3]), h.bl, h.nn, h.rp⟩, fun q q1 q2 => ?_⟩, h8⟩
    · have := h.ok
      exact ⟨LogM.bar_ok this.l, this.bl, this.n, this.n8, this.m, this.k, this.en, this.keys, this.pv, this.pn⟩
    · rw [Nat.le_antisymm q2 q1, List.take_length]
      exact ⟨_, h.rp, by rw [← h.bl, told_view]; simp⟩
  · right
    exact ⟨by show ¬ D.barrier.1 = 0; rw [b0]; decide, g0.twin hk b2 b1⟩
theorem write_still (hd : D.dead = true) (i : Int) (bs : Bytes) : D.write i bs = (30, D) := by
  have : D.has i = 30 := by unfold Dev.has; rw [if_pos hd]
  unfold Dev.write; rw [this, if_pos (by decide)]
theorem bar_still (hd : D.dead = true) : D.barrier = (30, D) := by unfold Dev.barrier; rw [if_pos hd]
theorem append_still (hd : D.dead = true) (L : LogM) (s : Bytes) : (L.append D s).2.2 = D := by
  unfold LogM.append
  split
  · rfl
  · split
    · rfl
    · split
      · rfl
      · dsimp only; rw [write_still hd]
theorem trim_still (hd : D.dead = true) (L : LogM) (m : Int) : (L.trim D m).2.2 = D := by
  unfold LogM.trim
  split
  · rfl
  · rw [bar_still hd]; rfl
theorem add_still (hd : D.dead = true) (C : CaM) (r : CrecM) : (C.add D r).2.2 = D := append_still hd _ _
theorem again_still (hd : D.dead = true) (C : CaM) : (C.again D).2.2 = D := by
  unfold CaM.again
  split
  · exact add_still hd _ _
  · rfl
theorem mkF_still (hd : D.dead = true) : ∀ (f : Nat) (C : CaM), (CaM.mkF f C D).2.2 = D
  | 0, C => rfl
  | f + 1, C => by
    unfold CaM.mkF
    split
    · rfl
    · split
      · exact again_still hd C
      · split
        · rw [again_still hd]; exact trim_still hd _ _
        · rw [again_still hd]
          have : ((C.again D).2.1.cut D (C.l.head + 1)).2.2 = D := trim_still hd _ _
          rw [this]
          exact mkF_still hd f _
theorem come_still (hd : D.dead = true) (C : CaM) (r : CrecM) : (C.come D r).2.2 = D := by
  unfold CaM.come
  split
  · exact mkF_still hd _ _
  · have : (C.make D).2.2 = D := mkF_still hd _ _
    rw [this]; exact add_still hd _ _
theorem doM_still (hd : D.dead = true) (C : CaM) (kind : Int) (x : EntM) (ns : List Int) : (doM C D kind x ns).2.2 = D := by
  unfold doM
  split
  · unfold CaM.put
    split
    · rfl
    · split
      · rfl
      · split
        · rfl
        · split
          · exact come_still hd _ _
          · split
            · rfl
            · split
              · exact come_still hd _ _
              · rw [come_still hd]; exact add_still hd _ _
  · split
    · unfold CaM.clean
      split
      · rfl
      · split
        · rfl
        · split
          · rfl
          · exact come_still hd _ _
    · split
      · unfold CaM.drop
        split
        · exact come_still hd _ _
        · rfl
      · split
        · unfold CaM.note
          split
          · rfl
          · exact come_still hd _ _
        · split
          · unfold CaM.reset
            split
            · rfl
            · exact come_still hd _ _
          · split
            · show D.barrier.2 = D; rw [bar_still hd]
            · rfl
/-- An act. -/
theorem CGo.doM (g : CGo P k C D W) (hk : k + 4000 < 4611686018427387000) (kind : Int) (x : EntM) (ns : List Int) (hw : ∀ y ∈ W, y ∈ W') (hm : kind = 0 → fullB C x.blk = true → ∀ y ∈ midsM C, y ∈ W') (hin : ((doM C D kind x ns).2.1.all, (doM C D kind x ns).2.1.k) ∈ W') :
    CGo P (k + 2200) (doM C D kind x ns).2.1 (doM C D kind x ns).2.2 W' ∧ (kind = 4 → (doM C D kind x ns).1 = 0 → CGo P (k + 2200) (doM C D kind x ns).2.1 (doM C D kind x ns).2.2 [((doM C D kind x ns).2.1.all, (doM C D kind x ns).2.1.k)]) := by
  rcases g with g | g
  · unfold Go.Sl.doM at hin ⊢
    by_cases c0 : kind = 0
    · rw [if_pos c0] at hin ⊢
      exact ⟨g.put hk hw (hm c0) hin, fun h => by omega⟩
    rw [if_neg c0] at hin ⊢
    by_cases c1 : kind = 1
    · rw [if_pos c1] at hin ⊢
      exact ⟨g.clean hk hw hin, fun h => by omega⟩
    rw [if_neg c1] at hin ⊢
    by_cases c2 : kind = 2
    · rw [if_pos c2] at hin ⊢
      exact ⟨g.drop hk hw hin, fun h => by omega⟩
    rw [if_neg c2] at hin ⊢
    by_cases c3 : kind = 3
    · rw [if_pos c3] at hin ⊢
      exact ⟨g.note hk hw hin, fun h => by omega⟩
    rw [if_neg c3] at hin ⊢
    by_cases c8 : kind = 8
    · rw [if_pos c8] at hin ⊢
      exact ⟨g.reset hk hw hin, fun h => by omega⟩
    rw [if_neg c8] at hin ⊢
    by_cases c4 : kind = 4
    · rw [if_pos c4] at hin ⊢
      obtain ⟨e, h⟩ := g.sync (by omega)
      rw [e] at hin ⊢
      rcases h with ⟨h1, h2⟩ | ⟨h1, h2⟩
      · exact ⟨.inl ((h2.le (by omega)).more fun y hy => by simp at hy; subst hy; exact hin), fun _ _ => .inl (h2.le (by omega))⟩
      · exact ⟨.inr ((h2.le (by omega)).more hw), fun _ h => absurd h h1⟩
    · rw [if_neg c4] at hin ⊢
      exact ⟨.inl ((g.le (by omega)).more hw), fun h => absurd h c4⟩
  · have hs := doM_still g.dead C kind x ns
    rw [hs]
    refine ⟨.inr ((g.le (by omega)).more hw), fun h4 h0 => ?_⟩
    exfalso
    subst h4
    have : (Go.Sl.doM C D 4 x ns).1 = D.barrier.1 := rfl
    rw [this, bar_still g.dead] at h0
    cases h0
theorem crashL_fuse (x : Int) : ∀ (is : List Int) (ks : Keeps) (ls : List Bytes), crashL (D.setFuse x) is ks ls = crashL D is ks ls
  | [], ks, ls => by rw [crashL_nil, crashL_nil]
  | i :: is, [], ls => by rw [crashL_nil', crashL_nil']
  | i :: is, y :: ks, ls => by
    unfold crashL
    exact crashL_fuse x is ks _
theorem crash_fuse (D : Dev) (x : Int) (ks : Keeps) : (D.setFuse x).crash ks = D.crash ks := by
  unfold Dev.crash
  show ({ D with l := crashL (D.setFuse x) D.pending ks D.l, es := [], dead := false, fuse := -1 } : Dev) = _
  rw [crashL_fuse]
theorem CGo.fuse (g : CGo P k C D W) {x : Int} (hx : x ≤ 9223372036854775807) : CGo P k C (D.setFuse x) W := by
  rcases g with ⟨⟨p, h, hS⟩, h8⟩ | g
  · left
    refine ⟨⟨p, ⟨?_, h.lx.fuse hx, h.lg, h.bl, h.nn, h.rp⟩, hS⟩, h8⟩
    have := h.ok
    have l := this.l
    exact ⟨⟨l.n, l.first, l.c, l.head, l.time, l.least, l.l, l.its, l.tail, Dev.setFuse_ok l.d hx⟩, this.bl, this.n, this.n8, this.m, this.k, this.en, this.keys, this.pv, this.pn⟩
  · right
    exact ⟨Dev.setFuse_ok g.ok hx, g.dead, g.len, fun ks hks => by rw [crash_fuse]; exact g.out ks hks⟩
/-- A crash, and it is opened anew. -/
theorem CGo.crash (g : CGo P k C D W) (hk : k < 4611686018427387000) (h8 : 8 ≤ P.n) (hm : 1 ≤ P.m ∧ P.m ≤ 32) {ks : Keeps} (hks : ∀ x ∈ ks, x.1 ≠ 2) :
    ∃ C' D', caOpen (D.crash ks) P.first P.n P.a P.b P.m = (0, C', D') ∧ CLive P (k + 1) C' D' [(C'.all, C'.k)] ∧ (C'.all, C'.k) ∈ W ∧ D'.es = [] ∧ Up D' P.N ∧ ∀ j : Int, 0 ≤ j → j < P.N → j ≠ P.a → j ≠ P.b → D'.sec j = (D.crash ks).sec j := by
  obtain ⟨h, T, le, l, hR, V, hV, hW⟩ : ∃ h T le l, LR P.first P.n P.a P.b (D.crash ks) P.N k h T le l ∧ Says P W h l := by
    rcases g with g | g
    · obtain ⟨⟨p, h, hS⟩, _⟩ := id g
      exact g.crash hk ⟨h.ok.d, rfl, rfl⟩ hks
    · exact g.out ks hks
  obtain ⟨D', e1, e2, e3, e4, e5⟩ := hR.opened hk
  have hlo := logOpen_ok (first := P.first) (n := P.n) (a := P.a) (b := P.b) hR.lv.ok (by rw [e1])
  rw [e1] at hlo
  obtain ⟨C', c1, c2⟩ := load_replay l h (caInit ⟨P.first, P.n, openC D' P.a P.b, h, T + 1, le, l⟩ P.m) ⟨aok_nil, aok_nil⟩ V (by
    have : (caInit ⟨P.first, P.n, openC D' P.a P.b, h, T + 1, le, l⟩ P.m).view = zeroV := rfl
    rw [this]; exact hV)
  have hI := CaL.init (bl := P.m) hlo.1 hm (show 8 ≤ P.n by omega)
  have hO := caLoad_all l hI (List.drop_zero ..) (by simpa using c1)
  have hl := hO.l
  have hx : CX P (k + 1) C' D' l.length := by
    refine ⟨hO.ok, ?_, ?_, hO.b, ?_, ?_⟩
    · rw [hl]; exact e2
    · rw [hl]
    · rw [hO.ok.n, hl]
    · rw [hl, c2]; exact hV
  have htold : tellV P.m C'.view = (C'.all, C'.k) := by rw [← hO.b, told_view]
  refine ⟨C', D', ?_, ⟨⟨l.length, hx, fun q q1 q2 => ?_⟩, h8⟩, ?_, e3, e4, e5⟩
  · unfold caOpen
    rw [if_neg (by omega), e1, if_neg (by simp)]
    dsimp only
    rw [Int.toNat_natCast, c1]
  · have hll : C'.l.l = l := by rw [hl]
    rw [hll] at q2 ⊢
    have hq : q = l.length := by omega
    rw [hq, List.take_length]
    have := hx.rp
    rw [hll] at this
    exact ⟨_, this, by rw [htold]; simp⟩
  · rw [← htold, c2]; exact hW
end Go.Sl
namespace Go.Sl
set_option linter.unusedSimpArgs false
theorem LR.cache {P : CaPl} {k : Nat} {D : Dev} {h T le : Int} {l : List (Bytes × Int)} {V : CaV} (hR : LR P.first P.n P.a P.b D P.N k h T le l) (hk : k < 4611686018427387000) (h8 : 8 ≤ P.n) (hm : 1 ≤ P.m ∧ P.m ≤ 32) (hV : replay P.m l h zeroV = some V) :
    ∃ C' D', caOpen D P.first P.n P.a P.b P.m = (0, C', D') ∧ CLive P (k + 1) C' D' [(C'.all, C'.k)] ∧ C'.view = V := by
  obtain ⟨D', e1, e2, e3, e4, e5⟩ := hR.opened hk
  have hlo := logOpen_ok (first := P.first) (n := P.n) (a := P.a) (b := P.b) hR.lv.ok (by rw [e1])
  rw [e1] at hlo
  obtain ⟨C', c1, c2⟩ := load_replay l h (caInit ⟨P.first, P.n, openC D' P.a P.b, h, T + 1, le, l⟩ P.m) ⟨aok_nil, aok_nil⟩ V (by
    have : (caInit ⟨P.first, P.n, openC D' P.a P.b, h, T + 1, le, l⟩ P.m).view = zeroV := rfl
    rw [this]; exact hV)
  have hI := CaL.init (bl := P.m) hlo.1 hm (show 8 ≤ P.n by omega)
  have hO := caLoad_all l hI (List.drop_zero ..) (by simpa using c1)
  have hl := hO.l
  have hx : CX P (k + 1) C' D' l.length := by
    refine ⟨hO.ok, ?_, ?_, hO.b, ?_, ?_⟩
    · rw [hl]; exact e2
    · rw [hl]
    · rw [hO.ok.n, hl]
    · rw [hl, c2]; exact hV
  have htold : tellV P.m C'.view = (C'.all, C'.k) := by rw [← hO.b, told_view]
  refine ⟨C', D', ?_, ⟨⟨l.length, hx, fun q q1 q2 => ?_⟩, h8⟩, c2⟩
  · unfold caOpen
    rw [if_neg (by omega), e1, if_neg (by simp)]
    dsimp only
    rw [Int.toNat_natCast, c1]
  · have hll : C'.l.l = l := by rw [hl]
    rw [hll] at q2 ⊢
    have hq : q = l.length := by omega
    rw [hq, List.take_length]
    have := hx.rp
    rw [hll] at this
    exact ⟨_, this, by rw [htold]; simp⟩
def cp9 (n : Nat) : CaPl := ⟨2, n, 0, 1, n + 2, 32⟩
theorem new_go {n : Nat} (hn : 8 ≤ n ∧ n ≤ 40) {C : CaM} {D : Dev} (h : caOpen (Dev.new (n + 2)) 2 n 0 1 (32 : Nat) = (0, C, D)) : CGo (cp9 n) 1 C D [(C.all, C.k)] := by
  have hR := new_lr (N := n + 2) (n := n) (first := 2) (a := 0) (b := 1) (by omega) (by omega) (by omega) (by decide) (by omega) (by omega) (by unfold inRing; omega) (by unfold inRing; omega)
  obtain ⟨C', D', h1, h2, -⟩ := LR.cache (P := cp9 n) hR (by decide) hn.1 ⟨by show (1 : Nat) ≤ 32; decide, Nat.le_refl _⟩ (V := zeroV) rfl
  have e : ((0 : Int), C', D') = (0, C, D) := h1.symm.trans h
  simp only [Prod.mk.injEq, true_and] at e
  obtain ⟨rfl, rfl⟩ := e
  exact .inl h2
theorem CaM.ok.fuse {C : CaM} {D : Dev} (h : C.ok D) {x : Int} (hx : x ≤ 9223372036854775807) : C.ok (D.setFuse x) := by
  have l := h.l
  exact ⟨⟨l.n, l.first, l.c, l.head, l.time, l.least, l.l, l.its, l.tail, Dev.setFuse_ok l.d hx⟩, h.bl, h.n, h.n8, h.m, h.k, h.en, h.keys, h.pv, h.pn⟩
theorem doM_bl (C : CaM) (D : Dev) (kind : Int) (x : EntM) (ns : List Int) : (doM C D kind x ns).2.1.bl = C.bl ∧ (doM C D kind x ns).2.1.n = C.n := by
  unfold doM
  split
  · unfold CaM.put
    split
    · exact ⟨rfl, rfl⟩
    · split
      · exact ⟨rfl, rfl⟩
      · split
        · exact ⟨rfl, rfl⟩
        · split
          · exact CaM.come_bl
          · split
            · exact ⟨rfl, rfl⟩
            · split
              · exact CaM.come_bl
              · exact ⟨CaM.add_bl.1.trans CaM.come_bl.1, CaM.add_bl.2.trans CaM.come_bl.2⟩
  · split
    · unfold CaM.clean
      split
      · exact ⟨rfl, rfl⟩
      · split
        · exact ⟨rfl, rfl⟩
        · split
          · exact ⟨rfl, rfl⟩
          · exact CaM.come_bl
    · split
      · unfold CaM.drop
        split
        · exact CaM.come_bl
        · exact ⟨rfl, rfl⟩
      · split
        · unfold CaM.note
          split
          · exact ⟨rfl, rfl⟩
          · exact CaM.come_bl
        · split
          · unfold CaM.reset
            split
            · exact ⟨rfl, rfl⟩
            · exact CaM.come_bl
          · split <;> exact ⟨rfl, rfl⟩
theorem ov_from {s : Ov} {m j size : Nat} {ys xs : List Value} (hok : ovOk s m size (ys ++ xs)) (hy : ys.length = j * size) (hj : j < m) :
    ∃ s', vSl (ovVal s m) j m size = ovVal s' (m - j) ∧ ovOk s' (m - j) size xs ∧ ∀ e, ovSeg s' e xs = ovSeg s e (ys ++ xs) := by
  cases s with
  | none => obtain ⟨h, _⟩ := hok; omega
  | some p =>
    obtain ⟨b, cap, pre, sp⟩ := p
    obtain ⟨h1, h2, h3, h4⟩ := hok
    have hc : ¬ cap = j := by omega
    rw [List.length_append, hy] at h3
    have h5 : xs.length = (m - j) * size := by rw [Nat.sub_mul]; omega
    refine ⟨some (b, cap - j, pre ++ ys, sp), ?_, ⟨by omega, by omega, h5, ?_⟩, fun e => by simp [ovSeg]⟩
    · simp only [vSl, ovVal, sliced, hc, if_false, Option.map_some, add_lit, List.length_append, hy]
    · simp only [List.length_append] at h4 ⊢
      rw [Nat.sub_mul]; omega
/-- What was told, as it lies: where each one's entries begin. -/
abbrev Ws := List (Sv × List EntM × KeptM)
def wCells (x : Sv × List EntM × KeptM) : List Value := [svVal x.1 x.2.1.length, .int .i64 x.2.2.e, .int .i64 x.2.2.s, .int .i64 x.2.2.t.a, .int .i64 x.2.2.t.b, .int .i64 x.2.2.t.c, .int .i64 x.2.2.t.d]
def wsV (ws : Ws) : List Value := (ws.map wCells).flatten
theorem wsV_len (ws : Ws) : (wsV ws).length = ws.length * 7 := flatten_len (k := 7) (fun _ => rfl) ws
theorem wsV_snoc (ws : Ws) (x : Sv × List EntM × KeptM) : wsV (ws ++ [x]) = wsV ws ++ wCells x := by simp [wsV]
theorem wsV_get {ws : Ws} {i : Nat} {x : Sv × List EntM × KeptM} (h : ws[i]? = some x) : ((wsV ws).drop (i * 7)).take 7 = wCells x := flat_at (f := wCells) (k := 7) (fun _ => rfl) ws i x h
theorem wCells_one (x : Sv × List EntM × KeptM) : ∀ u ∈ wCells x, u.oneCell' = true := by
  intro u hu
  simp only [wCells, List.mem_cons, List.not_mem_nil, or_false] at hu
  rcases hu with rfl | rfl | rfl | rfl | rfl | rfl | rfl
  · exact svVal_one _ _
  all_goals rfl
def wsS (T : TypeId) (ws : Ws) : Seg := (ws.map fun x => svSeg x.1 T (entsV x.2.1)).flatten
theorem wsS_snoc (T : TypeId) (ws : Ws) (x : Sv × List EntM × KeptM) : wsS T (ws ++ [x]) = wsS T ws ++ svSeg x.1 T (entsV x.2.1) := by simp [wsS]
structure WsOk (ws : Ws) : Prop where
  all : ∀ x ∈ ws, svOk x.1 x.2.1.length 7 (entsV x.2.1) ∧ x.2.1.length ≤ 32
theorem WsOk.snoc {ws : Ws} (h : WsOk ws) {x : Sv × List EntM × KeptM} (hx : svOk x.1 x.2.1.length 7 (entsV x.2.1)) (hl : x.2.1.length ≤ 32) : WsOk (ws ++ [x]) := ⟨fun y hy => by
  rcases List.mem_append.1 hy with hy | hy
  · exact h.all y hy
  · simp at hy; subst hy; exact ⟨hx, hl⟩⟩
theorem ws_rd [Env] {R : List Seg} {T : TypeId} {ws : Ws} (h : WsOk ws) {x : Sv × List EntM × KeptM} (hx : x ∈ ws) : RdV (wsS T ws :: R) (svVal x.1 x.2.1.length) x.2.1.length (entsV x.2.1) := by
  have h0 : RdV [svSeg x.1 T (entsV x.2.1)] (svVal x.1 x.2.1.length) x.2.1.length (entsV x.2.1) := rdV_sv .z (h.all x hx).1
  have hs : ∃ M : Seg, (wsS T ws :: R).flatten.Perm ([svSeg x.1 T (entsV x.2.1)].flatten ++ M) := by
    obtain ⟨a, b, rfl⟩ := List.append_of_mem hx
    refine ⟨wsS T a ++ wsS T b ++ R.flatten, ?_⟩
    simp only [wsS, List.map_append, List.map_cons, List.flatten_append, List.flatten_cons, List.flatten_nil, List.append_nil, List.append_assoc]
    refine (List.perm_append_comm_assoc _ _ _).trans (List.Perm.append_left _ ?_)
    exact List.Perm.refl _
  rcases h0 with h0 | ⟨a, c, h1, h2, h3⟩
  · exact .inl h0
  · exact .inr ⟨a, c, h1, h2, fun w hw => h3 w (hw.sub hs)⟩
def wsW (ws : Ws) : List (List EntM × KeptM) := ws.map (·.2)
end Go.Sl
