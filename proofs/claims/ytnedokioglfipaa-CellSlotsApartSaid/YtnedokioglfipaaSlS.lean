/- A part of the proof: contracts and plain lemmas, each without conditions beyond those that it names. -/
import Derived.Test.YtnedokioglfipaaSlR
set_option linter.unusedVariables false
set_option linter.unusedSimpArgs false
set_option linter.constructorNameAsVariable false
namespace Go.Sl
set_option linter.unusedSimpArgs false
theorem Con.via [Env] {P : Program} {f : FuncId} {args : List Value} {pre R pre' R' : List Seg} {post post' : Value → List Seg → Prop} (h : Con P f args pre' R' post')
    (h1 : (pre ++ R).flatten.Perm (pre' ++ R').flatten) (h2 : ∀ v L', post' v L' → ∃ L, post v L ∧ (L' ++ R').flatten.Perm (L ++ R).flatten) : Con P f args pre R post := by
  intro w hh
  refine (h w (hh.perm h1)).mono ?_
  rintro e w' ⟨v, L', rfl, hp, hh'⟩
  obtain ⟨L, hq, hl⟩ := h2 v L' hp
  exact ⟨v, L, rfl, hq, hh'.perm hl⟩

/-! all that is done leaves a device right -/
theorem Dev.new_ok {n : Nat} (hn : n ≤ 512) : (Dev.new n).ok :=
  ⟨by simpa [Dev.new] using hn, by simp [Dev.new, zsec], by simp [Dev.new], by simp [Dev.new], by simp [Dev.new], by simp [Dev.new], by simp [Dev.new], by simp [Dev.new]⟩
theorem Dev.setFuse_ok {D : Dev} (h : D.ok) {i : Int} (hi : i ≤ 9223372036854775807) : (D.setFuse i).ok := by
  refine ⟨h.n, h.sec, h.esec, h.keys, h.uniq, h.born, h.once, ?_⟩
  simp only [Dev.setFuse]
  split <;> omega
theorem Dev.act_ok' {D : Dev} (h : D.ok) : D.act.2.ok := by
  unfold Dev.act
  split
  · exact ⟨h.n, h.sec, h.esec, h.keys, h.uniq, h.born, h.once, h.fuse⟩
  · split
    · refine ⟨h.n, h.sec, h.esec, h.keys, h.uniq, h.born, h.once, ?_⟩
      have := h.fuse
      rw [wr (by omega) (by omega)]
      simp only; omega
    · exact h
theorem crashL_length (D : Dev) : ∀ (is : List Int) (ks : Keeps) (ls : List Bytes), (crashL D is ks ls).length = ls.length
  | [], ks, ls => by rw [crashL_nil]
  | i :: is, [], ls => rfl
  | i :: is, x :: ks, ls => by simp only [crashL]; rw [crashL_length D is ks]; simp
theorem crashL_sec {D : Dev} (hD : D.ok) : ∀ (is : List Int) (ks : Keeps) (ls : List Bytes), (∀ s ∈ ls, s.length = 144) → (∀ i ∈ is, i.toNat < ls.length) → ∀ s ∈ crashL D is ks ls, s.length = 144
  | [], ks, ls, h, _ => by rw [crashL_nil]; exact h
  | i :: is, [], ls, h, _ => h
  | i :: is, x :: ks, ls, h, hi => by
    simp only [crashL]
    refine crashL_sec hD is ks _ (set_len h ?_) (fun j hj => by simpa using hi j (by simp [hj]))
    have h1 := hi i (by simp)
    rw [List.getElem?_eq_getElem h1]
    exact keep1_length (sec_length hD i) (h _ (List.getElem_mem h1))
theorem Dev.crash_ok {D : Dev} (h : D.ok) (ks : Keeps) : (D.crash ks).ok := by
  refine ⟨by simpa [Dev.crash, crashL_length] using h.n, ?_, by simp [Dev.crash], by simp [Dev.crash], by simp [Dev.crash], by simp [Dev.crash], by simp [Dev.crash], by simp [Dev.crash]⟩
  refine crashL_sec h _ _ _ h.sec (fun i hi => ?_)
  obtain ⟨y, hy, rfl⟩ := List.mem_map.1 ((List.mergeSort_perm _ _).mem_iff.1 hi)
  have := h.keys y hy
  omega
theorem Dev.lose_ok {D : Dev} (h : D.ok) : D.lose.ok :=
  ⟨by simpa [Dev.lose] using h.n, by simp [Dev.lose, zsec], by simp [Dev.lose], by simp [Dev.lose], by simp [Dev.lose], by simp [Dev.lose], by simp [Dev.lose], by simp [Dev.lose]⟩
theorem Dev.write_ok {D : Dev} (h : D.ok) (i : Int) (bs : Bytes) : (D.write i bs).2.ok := by
  unfold Dev.write
  split
  · exact h
  · rename_i h0
    split
    · exact h
    · rename_i h1
      split
      · exact Dev.act_ok' h
      · have ha := Dev.act_ok' h
        have h0' : D.has i = 0 := by simpa using h0
        obtain ⟨-, hi0, hi1⟩ := has_zero h0'
        have hp : (pad bs).length = 144 := pad_length (by omega)
        generalize hE : D.act.2 = E at ha
        have hl : E.l = D.l := by rw [← hE]; exact act_l
        rw [← hl] at hi1
        unfold eput eclk
        by_cases hh : ehas E.es i = true
        · simp only [hh, if_true]
          have hk : (eset E.es i (pad bs)).map (·.1) = E.es.map (·.1) := by
            simp only [eset, List.map_map]
            apply List.map_congr_left
            intro x _
            simp only [Function.comp]
            split <;> simp_all
          have hb : (eset E.es i (pad bs)).map (·.2.2) = E.es.map (·.2.2) := by
            simp only [eset, List.map_map]
            apply List.map_congr_left
            intro x _
            simp only [Function.comp]
            split <;> simp_all
          refine ⟨ha.n, ha.sec, ?_, ?_, by rw [hk]; exact ha.uniq, ?_, by rw [hb]; exact ha.once, ha.fuse⟩
          · intro x hx
            obtain ⟨y, hy, rfl⟩ := List.mem_map.1 hx
            split
            · exact hp
            · exact ha.esec y hy
          · intro x hx
            obtain ⟨y, hy, rfl⟩ := List.mem_map.1 hx
            split
            · exact ⟨hi0, hi1⟩
            · exact ha.keys y hy
          · intro x hx
            obtain ⟨y, hy, rfl⟩ := List.mem_map.1 hx
            have := ha.born y hy
            split <;> exact this
        · simp only [hh, Bool.false_eq_true, if_false]
          have hn : i ∉ E.es.map (·.1) := by
            intro hm
            obtain ⟨y, hy, e⟩ := List.mem_map.1 hm
            exact hh (List.any_eq_true.2 ⟨y, hy, by simpa using e⟩)
          have hnb : E.clk ∉ E.es.map (·.2.2) := by
            intro hm
            obtain ⟨y, hy, e⟩ := List.mem_map.1 hm
            have := ha.born y hy
            omega
          refine ⟨ha.n, ha.sec, ?_, ?_, ?_, ?_, ?_, ha.fuse⟩
          · intro x hx
            rcases List.mem_append.1 hx with hx | hx
            · exact ha.esec x hx
            · simp at hx; subst hx; exact hp
          · intro x hx
            rcases List.mem_append.1 hx with hx | hx
            · exact ha.keys x hx
            · simp at hx; subst hx; exact ⟨hi0, hi1⟩
          · simp only [List.map_append, List.map_cons, List.map_nil]
            refine List.nodup_append.2 ⟨ha.uniq, by simp, ?_⟩
            intro a ha' b hb e
            simp at hb
            subst hb; subst e
            exact hn ha'
          · intro x hx
            rcases List.mem_append.1 hx with hx | hx
            · have := ha.born x hx; dsimp only; omega
            · simp at hx; subst hx; simp
          · simp only [List.map_append, List.map_cons, List.map_nil]
            refine List.nodup_append.2 ⟨ha.once, by simp, ?_⟩
            intro a ha' b hb e
            simp at hb
            subst hb; subst e
            exact hnb ha'
theorem Dev.barrier_ok {D : Dev} (h : D.ok) : D.barrier.2.ok := by
  unfold Dev.barrier
  split
  · exact h
  · split
    · exact Dev.act_ok' h
    · have ha := Dev.act_ok' h
      exact ⟨by simpa using ha.n, settleD_sec ha.esec ha.sec, by simp, by simp, by simp, by simp, by simp, ha.fuse⟩
theorem write_l {D : Dev} {i : Int} {bs : Bytes} : (D.write i bs).2.l = D.l := by
  unfold Dev.write
  split
  · rfl
  · split
    · rfl
    · split
      · exact act_l
      · simp
end Go.Sl
