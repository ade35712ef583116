/- A part of the proof: contracts and plain lemmas, each without conditions beyond those that it names. -/
import Derived.Test.YtediodfmkbfomaaGreatGO
set_option linter.unusedVariables false
set_option linter.unusedSimpArgs false
set_option linter.constructorNameAsVariable false
namespace Go.Sl
set_option linter.unusedSimpArgs false
/-- No entry is above the greatest version. -/
def LowE (f : Int → Option EntM) (k : KeptM) : Prop := ∀ i y, f i = some y → aboveV y.ve y.vs k.e k.s = false
structure RiseT (t u : T4) : Prop where
  a : t.a ≤ u.a
  b : t.b ≤ u.b
  c : t.c ≤ u.c
  d : t.d ≤ u.d
theorem RiseT.refl (t : T4) : RiseT t t := ⟨Int.le_refl _, Int.le_refl _, Int.le_refl _, Int.le_refl _⟩
theorem LowE.all {C : CaM} (h : LowE (aget C.en) C.k) {y : EntM} (hy : y ∈ C.all) : aboveV y.ve y.vs C.k.e C.k.s = false := by
  obtain ⟨i, _, hg⟩ := all_mem hy
  exact h _ _ hg
def placeM (n : Nat) (C : CaM) (kind b : Int) : Bool := decide (kind = 0) && (!(aget C.en b).isSome && decide ((n : Int) - 6 ≤ C.all.length))
/-- What became of the other entries: at most one, which was clean, went for a place. -/
structure ApartR (n : Nat) (C : CaM) (kind : Int) (x : EntM) (f : Int → Option EntM) (b : Int) : Prop where
  all : ∀ y, aget C.en y.blk = some y → ¬ (kind ≤ 2 ∧ y.blk = x.blk) → f y.blk = some y ∨ (y.blk = b ∧ f y.blk = none ∧ placeM n C kind x.blk = true ∧ y.dirty = false)
theorem CaS.apart {m n k : Nat} {C : CaM} {D : Dev} (s : CaS m n k C D) (hk : k < 4611686018427380000) (hn : n ≤ 40) (kind : Int) (x : EntM) (ns : List Int) : ∃ b, ApartR n C kind x (aget (Go.Sl.doM C D kind x ns).2.1.en) b := by
  have same : ∀ f, f = aget C.en → ApartR n C kind x f 0 := fun f hf => ⟨fun y hy _ => .inl (by rw [hf]; exact hy)⟩
  unfold Go.Sl.doM
  split
  · rename_i h0
    obtain ⟨-, h2⟩ := s.put hk hn x
    revert h2
    generalize (C.put D x).1 = e
    generalize aget (C.put D x).2.1.en = f
    generalize (C.put D x).2.1.k = q
    intro h2
    cases h2 with
    | bad => exact ⟨0, same _ rfl⟩
    | put => exact ⟨0, ⟨fun y hy hne => .inl (by unfold updE; rw [if_neg (fun e => hne ⟨by omega, e⟩)]; exact hy)⟩⟩
    | full => exact ⟨0, same _ rfl⟩
    | @place _ _ hh0 hh1 z hz hzd =>
      refine ⟨z.blk, ⟨fun y hy hne => ?_⟩⟩
      have hyx : ¬ y.blk = x.blk := fun e => hne ⟨by omega, e⟩
      by_cases hyz : y.blk = z.blk
      · refine .inr ⟨hyz, ?_, ?_, ?_⟩
        · unfold updE delE; rw [if_neg hyx, if_pos hyz]
        · have hc : C.all.length = C.en.length := by rw [all_cnt, en_len s.g.ok]
          unfold placeM
          rw [hh0, decide_eq_true h0, hc]
          simp; omega
        · rw [hyz, hz] at hy; cases hy; exact hzd
      · left; unfold updE delE; rw [if_neg hyx, if_neg hyz]; exact hy
  rename_i h0
  split
  · rename_i h1
    obtain ⟨-, h2, -⟩ := s.clean hk hn x.blk x.ve x.vs
    revert h2
    generalize (C.clean D x.blk x.ve x.vs).1 = e
    generalize aget (C.clean D x.blk x.ve x.vs).2.1.en = f
    intro h2
    cases h2 with
    | none => exact ⟨0, same _ rfl⟩
    | was => exact ⟨0, same _ rfl⟩
    | @did z hz hv hd =>
      have hzb := (ok_get s.g.ok hz).2
      exact ⟨0, ⟨fun y hy hne => .inl (by unfold updE; rw [if_neg (fun e => hne ⟨by omega, e.trans hzb⟩)]; exact hy)⟩⟩
  rename_i h1
  split
  · rename_i h2
    obtain ⟨-, h3, -⟩ := s.drop hk hn x.blk
    rcases h3 with ⟨_, _, e⟩ | ⟨_, _, e⟩
    · rw [e]; exact ⟨0, same _ rfl⟩
    · rw [e]; exact ⟨0, ⟨fun y hy hne => .inl (by unfold delE; rw [if_neg (fun e => hne ⟨by omega, e⟩)]; exact hy)⟩⟩
  split
  · obtain ⟨-, h2⟩ := s.note hk hn x.ve x.vs ns
    rcases h2 with ⟨_, h2⟩ | ⟨_, _, h2, _⟩
    · rw [h2]; exact ⟨0, same _ rfl⟩
    · rw [h2]; exact ⟨0, same _ rfl⟩
  split
  · obtain ⟨-, h2⟩ := s.reset hk hn x.ve x.vs ns
    rcases h2 with ⟨_, h2⟩ | ⟨_, _, h2, _⟩
    · rw [h2]; exact ⟨0, same _ rfl⟩
    · rw [h2]; exact ⟨0, same _ rfl⟩
  split
  · exact ⟨0, same _ rfl⟩
  · exact ⟨0, same _ rfl⟩
theorem all_blk {C : CaM} {D : Dev} (h : C.ok D) {i : Nat} {y : EntM} (hy : C.all[i]? = some y) : aget C.en y.blk = some y := by
  obtain ⟨j, _, hg⟩ := all_mem (List.mem_of_getElem? hy)
  rw [(ok_get h hg).2]; exact hg
theorem all_nodup {C : CaM} {D : Dev} (h : C.ok D) : (C.all.map (·.blk)).Nodup := by
  have hnd : ∀ k, ((allTo C k).map (·.blk)).Nodup ∧ ∀ x ∈ allTo C k, x.blk < k := by
    intro k
    induction k with
    | zero => exact ⟨by simp [allTo], fun x hx => by simp [allTo] at hx⟩
    | succ k ih =>
      rw [allTo_succ]
      cases hg : aget C.en (k : Nat) with
      | none => exact ⟨ih.1, fun x hx => by have := ih.2 x hx; omega⟩
      | some y =>
        have hy := (ok_get h hg).2
        dsimp only
        refine ⟨?_, fun x hx => ?_⟩
        · rw [List.map_append, List.nodup_append]
          refine ⟨ih.1, by simp, ?_⟩
          intro a ha b hb
          simp only [List.map_cons, List.map_nil, List.mem_singleton] at hb
          obtain ⟨x, hx, rfl⟩ := List.mem_map.1 ha
          have := ih.2 x hx
          omega
        · rcases List.mem_append.1 hx with hx | hx
          · have := ih.2 x hx; omega
          · simp only [List.mem_singleton] at hx; subst hx; omega
  exact (hnd C.bl).1
/-- How many went, so far. -/
structure Gone (C : CaM) (b : Int) (i g : Nat) : Prop where
  le : g ≤ 1
  in' : g = 1 → b ∈ (C.all.take i).map (·.blk)
theorem Gone.step {C : CaM} {b : Int} {i g : Nat} (h : Gone C b i g) : Gone C b (i + 1) g :=
  ⟨h.le, fun e => by obtain ⟨x, hx, e2⟩ := List.mem_map.1 (h.in' e); exact List.mem_map.2 ⟨x, (List.take_subset_take_left C.all (by omega)) hx, e2⟩⟩
theorem Gone.more {C : CaM} {D : Dev} (hC : C.ok D) {b : Int} {i g : Nat} (h : Gone C b i g) {y : EntM} (hy : C.all[i]? = some y) (e : y.blk = b) : Gone C b (i + 1) (g + 1) := by
  have hi : i < C.all.length := (List.getElem?_eq_some_iff.1 hy).1
  have hn := all_nodup hC
  have hmem : b ∈ (C.all.take (i + 1)).map (·.blk) := by
    rw [List.take_add_one, hy]; simp [e]
  refine ⟨?_, fun _ => hmem⟩
  rcases Nat.lt_or_ge g 1 with h1 | h1
  · omega
  · exfalso
    have hg : g = 1 := by have := h.le; omega
    have h2 := h.in' hg
    have h3 : C.all = C.all.take i ++ y :: C.all.drop (i + 1) := by
      have := List.take_append_drop i C.all
      rw [List.drop_eq_getElem_cons hi] at this
      rw [(List.getElem?_eq_some_iff.1 hy).2] at this
      exact this.symm
    rw [h3, List.map_append, List.nodup_append] at hn
    exact hn.2.2 b h2 b (by simp [e]) rfl
end Go.Sl
