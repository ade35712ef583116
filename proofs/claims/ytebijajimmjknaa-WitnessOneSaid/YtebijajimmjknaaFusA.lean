/- A part of the proof: contracts and plain lemmas, each without conditions beyond those that it names. -/
import Derived.Test.YtebijajimmjknaaGG
set_option linter.unusedVariables false
set_option linter.unusedSimpArgs false
set_option linter.constructorNameAsVariable false
namespace Go.Sl
set_option linter.unusedSimpArgs false
/-! cells on a device that may die, whose sectors don't tear -/
structure HalfD (D Dp : Dev) (n : Nat) (o : Int) (p : Bytes) : Prop where
  live : Live Dp n
  ok : D.ok
  l : D.l = Dp.l
  dead : D.dead = true
  es : D.es = [] ∨ ∃ c, D.es = [(o, p, c)]
  o : 0 ≤ o ∧ o < n
theorem write_30 {D : Dev} {i : Int} {bs : Bytes} (h : (D.write i bs).1 = 30) : (D.write i bs).2.dead = true := by
  unfold Dev.write at h ⊢
  by_cases c1 : D.has i ≠ 0
  · rw [if_pos c1] at h ⊢
    unfold Dev.has at h
    by_cases c2 : D.dead = true
    · exact c2
    · rw [if_neg c2] at h; split at h <;> cases h
  · rw [if_neg c1] at h ⊢
    by_cases c2 : (144 : Int) < bs.length
    · rw [if_pos c2] at h; cases h
    · rw [if_neg c2] at h ⊢
      by_cases c3 : D.act.1 ≠ 0
      · rw [if_pos c3] at h ⊢
        unfold Dev.act at h ⊢
        by_cases c4 : D.fuse = 0
        · rw [if_pos c4]
        · rw [if_neg c4] at h; cases h
      · rw [if_neg c3] at h; cases h
theorem barrier_30 {D : Dev} (h : ¬ D.barrier.1 = 0) : D.barrier.2.dead = true := by
  unfold Dev.barrier at h ⊢
  by_cases c1 : D.dead = true
  · rw [if_pos c1]; exact c1
  · rw [if_neg c1] at h ⊢
    by_cases c3 : D.act.1 ≠ 0
    · rw [if_pos c3]
      unfold Dev.act at c3 ⊢
      by_cases c4 : D.fuse = 0
      · rw [if_pos c4]
      · rw [if_neg c4] at c3; exact absurd rfl c3
    · rw [if_neg c3] at h; exact absurd rfl h
theorem put_30 {C : CellM} {D D' : Dev} {s : Bytes} (h : C.put D s = (30, C, D')) : D'.dead = true := by
  unfold CellM.put at h
  by_cases c1 : (100 : Int) < s.length
  · rw [if_pos c1] at h; simp at h
  rw [if_neg c1] at h
  by_cases c2 : C.gen = 4611686018427387904
  · rw [if_pos c2] at h; simp at h
  rw [if_neg c2] at h
  dsimp only at h
  by_cases c3 : (D.write C.other (slotM (IntKind.i64.wrap (C.gen + 1)) s)).1 ≠ 0
  · rw [if_pos c3] at h
    simp only [Prod.mk.injEq, true_and] at h
    rw [← h.2]; exact write_30 h.1
  rw [if_neg c3] at h
  by_cases c4 : (D.write C.other (slotM (IntKind.i64.wrap (C.gen + 1)) s)).2.barrier.1 ≠ 0
  · rw [if_pos c4] at h
    simp only [Prod.mk.injEq, true_and] at h
    rw [← h.2]; exact barrier_30 c4
  · rw [if_neg c4] at h; simp at h
theorem put_dead {C : CellM} {D : Dev} {s : Bytes} (hd : D.dead = true) (hs : s.length ≤ 100) (hg : C.gen < 4611686018427387904) : C.put D s = (30, C, D) := by
  have e : D.write C.other (slotM (IntKind.i64.wrap (C.gen + 1)) s) = (30, D) := by
    have : D.has C.other = 30 := by unfold Dev.has; rw [if_pos hd]
    unfold Dev.write; rw [this, if_pos (by decide)]
  unfold CellM.put
  rw [if_neg (by omega), if_neg (by omega), e]
  dsimp only
  rw [if_pos (by decide)]
theorem live_openC {D : Dev} {n : Nat} {a b : Int} (h : Live D n) (hab : a ≠ b) (ha : 0 ≤ a ∧ a < n) (hb : 0 ≤ b ∧ b < n) : openE D a b = 0 ∧ (openC D a b).ok n := by
  have hE : openE D a b = 0 := openE_ok hab (by omega) (by rw [h.len]; omega) (by rw [h.live]; decide)
  have := (openC_ok hE).1
  rw [h.len] at this
  exact ⟨hE, this⟩
/-- A put on a device that is alive. -/
theorem put_live {D : Dev} {n : Nat} {a b : Int} {s : Bytes} (hL : Live D n) (hC : (openC D a b).ok n) (hs : s.length ≤ 100) (hg : (openC D a b).gen < 4611686018427387904) :
    (∃ D', (openC D a b).put D s = (0, (openC D a b).next s, D') ∧ Live D' n ∧ openC D' a b = (openC D a b).next s ∧ ∀ j : Int, 0 ≤ j → j < n → j ≠ (openC D a b).other → D'.sec j = D.sec j) ∨
    (∃ D', (openC D a b).put D s = (30, openC D a b, D') ∧ HalfD D' D n (openC D a b).other (pad (slotM ((openC D a b).gen + 1) s))) := by
  have hgen := hC.gen
  have hp := put_res hL hC hs hg
  by_cases h0 : ((openC D a b).put D s).1 = 0
  · obtain ⟨D', h1, h2, h3, h4⟩ := putRes_zero hp h0
    exact .inl ⟨D', h1, h2, open_next' hC hs hg (by rw [h3]; exact readM_pad (by rw [slotOk_iff]; omega)) h4, h4⟩
  · obtain ⟨D', h1, h2, h3, h4⟩ := putRes_fail hp h0
    exact .inr ⟨D', h1, hL, h2, h3, put_30 h1, h4, other_in hC⟩
theorem half_crash {D Dp : Dev} {n : Nat} {o : Int} {p : Bytes} (h : HalfD D Dp n o p) {ks : Keeps} (hk : ∀ x ∈ ks, x.1 ≠ 2) :
    Live (D.crash ks) n ∧ (∀ j : Int, 0 ≤ j → j < n → j ≠ o → (D.crash ks).sec j = Dp.sec j) ∧ ((D.crash ks).sec o = Dp.sec o ∨ (D.crash ks).sec o = p) := by
  have hU := crash_up h.ok ks
  have hlen : D.l.length = n := by rw [h.l]; exact h.live.len
  rw [hlen] at hU
  have hLc : Live (D.crash ks) n := ⟨hU.ok, hU.len, hU.live, rfl⟩
  refine ⟨hLc, fun j h0 h1 hj => ?_, ?_⟩
  · rcases h.es with he | ⟨c, he⟩
    · exact crash_none ks h.live h.l he j
    · rw [sec_crash_other h.ok h0, h.l, sec_l h.live.es]
      intro hm
      have : j ∈ D.es.map (·.1) := (List.mergeSort_perm _ _).mem_iff.1 hm
      rw [he] at this
      simp at this
      exact hj this
  · rcases h.es with he | ⟨c, he⟩
    · exact .inl (crash_none ks h.live h.l he o)
    · have hp : D.pending = [o] := by unfold Dev.pending; rw [he]; simp
      have hso : D.sec o = p := by unfold Dev.sec; rw [he]; simp [eget]
      have hoi := h.o
      rw [sec_l hLc.es, sec_l h.live.es, ← h.l]
      unfold Dev.crash
      dsimp only
      rw [hp]
      cases ks with
      | nil => left; rw [crashL_nil']
      | cons x ks =>
        unfold crashL
        rw [crashL_nil, List.getElem?_set_self (by omega), Option.getD_some, hso]
        unfold keep1
        split
        · exact .inr rfl
        · rw [if_neg (hk x (List.mem_cons_self ..))]
          left
          have : o.toNat < D.l.length := by omega
          simp [List.getElem?_eq_getElem this]
/-- The cell that was under way. -/
theorem half_cell {D Dp : Dev} {n : Nat} {a b : Int} {s : Bytes} (h : HalfD D Dp n (openC Dp a b).other (pad (slotM ((openC Dp a b).gen + 1) s))) {ks : Keeps} (hk : ∀ x ∈ ks, x.1 ≠ 2)
    (hC : (openC Dp a b).ok n) (hs : s.length ≤ 100) (hg : (openC Dp a b).gen < 4611686018427387904) : openC (D.crash ks) a b = openC Dp a b ∨ openC (D.crash ks) a b = (openC Dp a b).next s := by
  have hgen := hC.gen
  obtain ⟨_, h1, h2⟩ := half_crash h hk
  rcases h2 with h2 | h2
  · left
    have hall : ∀ j : Int, 0 ≤ j → j < n → (D.crash ks).sec j = Dp.sec j := fun j j0 j1 => by
      by_cases hj : j = (openC Dp a b).other
      · rw [hj]; exact h2
      · exact h1 j j0 j1 hj
    have e := openC_ab Dp a b
    have ha := hC.a
    have hb := hC.b
    rw [e.1] at ha
    rw [e.2] at hb
    exact open_same (hall a ha.1 ha.2) (hall b hb.1 hb.2)
  · right
    exact open_next' hC hs hg (by rw [h2]; exact readM_pad (by rw [slotOk_iff]; omega)) h1
theorem live_crash {D : Dev} {n : Nat} (h : Live D n) (ks : Keeps) : Live (D.crash ks) n ∧ ∀ j : Int, (D.crash ks).sec j = D.sec j := by
  have hU := crash_up h.ok ks
  rw [h.len] at hU
  exact ⟨⟨hU.ok, hU.len, hU.live, rfl⟩, fun j => sec_crash_nil h.es ks j⟩
end Go.Sl
