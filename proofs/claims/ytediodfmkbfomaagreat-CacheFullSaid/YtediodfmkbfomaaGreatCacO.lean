/- A part of the proof: contracts and plain lemmas, each without conditions beyond those that it names. -/
import Derived.Test.YtediodfmkbfomaaGreatGO
set_option linter.unusedVariables false
set_option linter.unusedSimpArgs false
set_option linter.constructorNameAsVariable false
namespace Go.Sl
set_option linter.unusedSimpArgs false
def fe (b s : Int) : EntM := ⟨b, 1, s, [100, 97, 116, 97, 100, 97, 116, 97], true, -1, 0⟩
theorem fe_ok {b s : Int} (hb : 0 ≤ b ∧ b < 32) (hs : 1 ≤ s ∧ s ≤ 1000) : (fe b s).ok 32 :=
  ⟨hb, by show (1 : Int) ≤ 1 ∧ (1 : Int) ≤ _; omega, by show 1 ≤ s ∧ s ≤ _; omega, rfl, by show (-1 : Int) ≤ -1 ∧ (-1 : Int) ≤ 3; omega, by show (0 : Int) ≤ 0 ∧ (0 : Int) ≤ _; omega⟩
theorem cnt_lt {f : Int → Option EntM} {b : Nat} (h : ∀ i, (f i).isSome = decide (0 ≤ i ∧ i < (b : Int))) : ∀ m, cntF f m = min b m
  | 0 => by simp [cntF]
  | m + 1 => by
    unfold cntF
    rw [cnt_lt h m, h]
    by_cases hm : m < b
    · rw [if_pos (decide_eq_true ⟨by omega, by omega⟩)]; omega
    · rw [if_neg (by simp; omega)]; omega
structure FuS (n b k : Nat) (sq : Int) (C : CaM) (D : Dev) : Prop where
  s : CaS 32 n k C D
  has : ∀ i, (aget C.en i).isSome = decide (0 ≤ i ∧ i < (b : Int))
  dirt : ∀ i y, aget C.en i = some y → y.dirty = true
  low : C.k.e < 1 ∨ (C.k.e = 1 ∧ C.k.s ≤ sq)
  sq0 : 0 ≤ sq ∧ sq ≤ 100
theorem FuS.above {n b k : Nat} {sq : Int} {C : CaM} {D : Dev} (h : FuS n b k sq C D) (x : Int) : aboveV (fe x (sq + 1)).ve (fe x (sq + 1)).vs C.k.e C.k.s = true := by
  have h1 := h.low
  show aboveV 1 (sq + 1) C.k.e C.k.s = true
  unfold aboveV
  simp only [Bool.or_eq_true, Bool.and_eq_true, decide_eq_true_eq]
  omega
theorem FuS.len {n b k : Nat} {sq : Int} {C : CaM} {D : Dev} (h : FuS n b k sq C D) (hb : b ≤ 32) : C.en.length = b := by rw [h.s.cnt, cnt_lt h.has]; omega
theorem FuS.put {n b k : Nat} {sq : Int} {C : CaM} {D : Dev} (h : FuS n b k sq C D) (hk : k < 4611686018427380000) (hn : n ≤ 30) (hq : sq ≤ 99) (hb : b + 6 < n) :
    (C.put D (fe b (sq + 1))).1 = 0 ∧ FuS n (b + 1) (k + 200) (sq + 1) (C.put D (fe b (sq + 1))).2.1 (C.put D (fe b (sq + 1))).2.2 := by
  have hq0 := h.sq0
  obtain ⟨h1, h2, h3, h4⟩ := h.s.put_new hk (by omega) (x := fe b (sq + 1)) (fe_ok (by omega) (by omega)) (h.above b) (.inr (by rw [h.len (by omega)]; omega))
  refine ⟨h1, h2, fun i => ?_, fun i y hy => ?_, ?_, by omega⟩
  · rw [h3]
    unfold updE
    by_cases e : i = (fe b (sq + 1)).blk
    · rw [if_pos e]
      have e' : i = b := e
      symm; simp; omega
    · rw [if_neg e, h.has]
      have e' : ¬ i = b := e
      by_cases hi : 0 ≤ i ∧ i < (b : Int)
      · rw [decide_eq_true hi, decide_eq_true (by omega)]
      · rw [decide_eq_false hi, decide_eq_false (by omega)]
  · rw [h3] at hy
    rcases awf_some hy with ⟨_, rfl⟩ | hy
    · rfl
    · exact h.dirt i y hy
  · rw [h4]; right; exact ⟨rfl, Int.le_refl _⟩
theorem FuS.full {n b k : Nat} {sq : Int} {C : CaM} {D : Dev} (h : FuS n b k sq C D) (hk : k < 4611686018427380000) (hn : n ≤ 30) (hq : sq ≤ 99) (hb : b + 6 = n) {m : Int} (hm : (b : Int) ≤ m ∧ m < 32) :
    (C.put D (fe m (sq + 1))).1 = 12 ∧ (C.put D (fe m (sq + 1))).2.1 = C ∧ FuS n b (k + 200) (sq + 1) C (C.put D (fe m (sq + 1))).2.2 := by
  have hq0 := h.sq0
  obtain ⟨h1, h2, h3⟩ := h.s.put_full hk (by omega) (x := fe m (sq + 1)) (fe_ok (by omega) (by omega)) (h.above m) (by rw [h.has]; show decide (0 ≤ m ∧ m < (b : Int)) = false; exact decide_eq_false (by omega)) (by rw [h.len (by omega)]; omega) (fun y hy => h.dirt _ y hy)
  exact ⟨h1, h2, h3, h.has, h.dirt, by have := h.low; omega, by omega⟩
theorem FuS.again {n b k : Nat} {sq : Int} {C : CaM} {D : Dev} (h : FuS n b k sq C D) (hk : k < 4611686018427380000) (hn : n ≤ 30) (hq : sq ≤ 99) (hb : b + 6 = n) {m : Int} (hm : 0 ≤ m ∧ m < (b : Int)) :
    (C.put D (fe m (sq + 1))).1 = 0 ∧ FuS n b (k + 200) (sq + 1) (C.put D (fe m (sq + 1))).2.1 (C.put D (fe m (sq + 1))).2.2 ∧ aget (C.put D (fe m (sq + 1))).2.1.en m = some (fe m (sq + 1)) := by
  have hq0 := h.sq0
  obtain ⟨h1, h2, h3, h4⟩ := h.s.put_new hk (by omega) (x := fe m (sq + 1)) (fe_ok (by omega) (by omega)) (h.above m) (.inl (by rw [h.has]; exact decide_eq_true hm))
  refine ⟨h1, ⟨h2, fun i => ?_, fun i y hy => ?_, ?_, by omega⟩, ?_⟩
  · rw [h3]
    unfold updE
    by_cases e : i = (fe m (sq + 1)).blk
    · rw [if_pos e]
      have e' : i = m := e
      symm; simp; omega
    · rw [if_neg e, h.has]
  · rw [h3] at hy
    rcases awf_some hy with ⟨_, rfl⟩ | hy
    · rfl
    · exact h.dirt i y hy
  · rw [h4]; right; exact ⟨rfl, Int.le_refl _⟩
  · rw [h3]; unfold updE; rw [if_pos (show m = (fe m (sq + 1)).blk from rfl)]
theorem FuS.all {n b k : Nat} {sq : Int} {C : CaM} {D : Dev} (h : FuS n b k sq C D) (hb : b ≤ 32) : C.all.length = b := by rw [all_cnt, ← en_len h.s.g.ok]; exact h.len hb
theorem FuS.clean {n b k : Nat} {sq : Int} {C : CaM} {D : Dev} (h : FuS n b k sq C D) (hk : k < 4611686018427380000) (hn : n ≤ 30) {m s : Int} (hg : aget C.en m = some (fe m s)) :
    (C.clean D m 1 s).1 = 0 ∧ CaS 32 n (k + 200) (C.clean D m 1 s).2.1 (C.clean D m 1 s).2.2 ∧ aget (C.clean D m 1 s).2.1.en = updE (aget C.en) { fe m s with dirty := false } ∧ (C.clean D m 1 s).2.1.k = C.k :=
  h.s.clean_did hk (by omega) (y := fe m s) hg rfl
theorem FuS.fin {n b k : Nat} {sq : Int} {C : CaM} {D : Dev} (h : FuS n b k sq C D) (hk : k < 4611686018427300000) (hn : n ≤ 30) (hq : sq ≤ 99) (hb : b + 6 = n) {m s t : Int} (hm : 0 ≤ m ∧ m < (b : Int)) (ht : (b : Int) ≤ t ∧ t < 32) (hg : aget C.en m = some (fe m s)) {C' : CaM} {D' : Dev}
    (hs : CaS 32 n (k + 200) C' D') (hen : aget C'.en = updE (aget C.en) { fe m s with dirty := false }) (hkk : C'.k = C.k) :
    (C'.put D' (fe t (sq + 1))).1 = 0 ∧ CaS 32 n (k + 400) (C'.put D' (fe t (sq + 1))).2.1 (C'.put D' (fe t (sq + 1))).2.2 ∧ aget (C'.put D' (fe t (sq + 1))).2.1.en m = none ∧ (aget (C'.put D' (fe t (sq + 1))).2.1.en t).isSome = true ∧ (C'.put D' (fe t (sq + 1))).2.1.all.length = b := by
  have hq0 := h.sq0
  have hhas : ∀ i, (aget C'.en i).isSome = decide (0 ≤ i ∧ i < (b : Int)) := fun i => by
    rw [hen]
    unfold updE
    by_cases e : i = ({ fe m s with dirty := false } : EntM).blk
    · rw [if_pos e]
      have e' : i = m := e
      symm; simp; omega
    · rw [if_neg e]; exact h.has i
  have hl : C'.en.length = b := by rw [hs.cnt, cnt_lt hhas]; omega
  obtain ⟨h1, h2, ⟨y, hy, hyd, h3⟩, h4⟩ := hs.put_place (by omega) (by omega) (x := fe t (sq + 1)) (fe_ok (by omega) (by omega)) (by rw [hkk]; exact h.above t) (by rw [hhas]; exact decide_eq_false (by show ¬ (0 ≤ t ∧ t < (b : Int)); omega)) (by omega) (y0 := { fe m s with dirty := false }) (by rw [hen]; unfold updE; rw [if_pos rfl]) rfl
  have hyb : y.blk = m := by
    rw [hen] at hy
    rcases awf_some hy with ⟨e, _⟩ | hy
    · exact e
    · have := h.dirt _ y hy; rw [hyd] at this; cases this
  rw [hyb] at h3
  have hne : ¬ m = t := by omega
  refine ⟨h1, h2, ?_, ?_, ?_⟩
  · rw [h3]; unfold updE delE; rw [if_neg (show ¬ m = (fe t (sq + 1)).blk from hne), if_pos rfl]
  · rw [h3]; unfold updE; rw [if_pos (show t = (fe t (sq + 1)).blk from rfl)]; rfl
  · rw [all_cnt, h2.g.bl, h3, cnt_more (f := delE (aget C'.en) m) (by unfold delE; rw [if_neg (show ¬ (fe t (sq + 1)).blk = m from fun e => hne e.symm), hhas]; exact decide_eq_false (by show ¬ (0 ≤ t ∧ t < (b : Int)); omega)) (by show 0 ≤ t; omega) 32 (by show t < _; omega)]
    have := cnt_less (f := aget C'.en) (b := m) (by rw [hhas]; exact decide_eq_true hm) hm.1 32 (by omega)
    rw [cnt_lt hhas] at this
    omega
theorem new_fus {n : Nat} {C : CaM} {D : Dev} (s : CaS 32 n 1 C D) (hv : C.view = zeroV) : FuS n 0 1 0 C D := by
  have hen : aget C.en = fun _ => none := congrArg CaV.en hv
  have hkk : C.k = ⟨0, 0, ⟨0, 0, 0, 0⟩⟩ := congrArg CaV.k hv
  exact ⟨s, (fun i => (by rw [hen]; symm; simp)), (fun i y hy => (by rw [hen] at hy; cases hy)), .inl (by rw [hkk]; decide), by decide⟩
end Go.Sl
