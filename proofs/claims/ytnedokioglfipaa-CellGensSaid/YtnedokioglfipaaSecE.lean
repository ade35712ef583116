/- A part of the proof: contracts and plain lemmas, each without conditions beyond those that it names. -/
import Derived.Test.YtnedokioglfipaaSecD
set_option linter.unusedVariables false
set_option linter.unusedSimpArgs false
set_option linter.constructorNameAsVariable false
namespace Go.Sl
set_option linter.unusedSimpArgs false
/-! what is wanted to be pending -/
structure WantOk (D : Dev) (kv : Kv) : Prop where
  keys : kv.map (·.1) = D.es.map (·.1)
  all : ∀ x ∈ kv, x.2.1 = .bool true
theorem WantOk.len {D : Dev} {kv : Kv} (h : WantOk D kv) : kv.length = D.es.length := by
  have := congrArg List.length h.keys
  simpa using this
theorem WantOk.uniq {D : Dev} {kv : Kv} (h : WantOk D kv) (hD : D.ok) : uniq kv := by
  unfold Sl.uniq; rw [h.keys]; exact hD.uniq
theorem WantOk.nil {D : Dev} (h : D.es = []) : WantOk D [] := ⟨by rw [h]; rfl, by simp⟩
theorem any_keys {kv : Kv} {es : Es} (h : kv.map (·.1) = es.map (·.1)) (k : Int) : kv.any (fun x => decide (x.1 = k)) = ehas es k := by
  have h1 : kv.any (fun x => decide (x.1 = k)) = (kv.map (·.1)).any (fun x => decide (x = k)) := by rw [List.any_map]; rfl
  have h2 : ehas es k = (es.map (·.1)).any (fun x => decide (x = k)) := by rw [List.any_map]; rfl
  rw [h1, h2, h]
theorem WantOk.put {D : Dev} {n : Nat} {kv : Kv} {c : Nat} {i : Int} {bs : Bytes} (h : WantOk D kv) (hU : Up D n) (h0 : (D.write i bs).1 = 0) : WantOk (D.write i bs).2 (mput kv c i (.bool true)) := by
  rw [hU.write] at h0 ⊢
  split at h0
  · simp at h0
  · rename_i h1
    split at h0
    · simp at h0
    · rename_i h2
      rw [if_neg h1, if_neg h2]
      have ha := any_keys h.keys i
      unfold mput eput
      rw [ha]
      by_cases hh : ehas D.es i = true
      · rw [if_pos hh, if_pos hh]
        refine ⟨?_, ?_⟩
        · have e1 : (mset kv i (.bool true)).map (·.1) = kv.map (·.1) := by
            simp only [mset, List.map_map]
            apply List.map_congr_left
            intro x _
            simp only [Function.comp]
            split <;> simp_all
          have e2 : (eset D.es i (pad bs)).map (·.1) = D.es.map (·.1) := by
            simp only [eset, List.map_map]
            apply List.map_congr_left
            intro x _
            simp only [Function.comp]
            split <;> simp_all
          rw [e1, h.keys]; exact e2.symm
        · intro x hx
          obtain ⟨y, hy, rfl⟩ := List.mem_map.1 hx
          split
          · rfl
          · exact h.all y hy
      · rw [if_neg hh, if_neg hh]
        refine ⟨by simp [h.keys], ?_⟩
        intro x hx
        rcases List.mem_append.1 hx with hx | hx
        · exact h.all x hx
        · simp at hx; subst hx; rfl
theorem Up.write_fail {D : Dev} {n : Nat} (hU : Up D n) {i : Int} {bs : Bytes} (h0 : ¬ (D.write i bs).1 = 0) : (D.write i bs).2 = D := by
  rw [hU.write] at h0 ⊢
  split
  · rfl
  · rename_i h1
    rw [if_neg h1] at h0
    split
    · rfl
    · rename_i h2
      rw [if_neg h2] at h0
      exact absurd rfl h0
theorem Up.fail {D : Dev} {n : Nat} (hU : Up D n) {i : Int} {bs : Bytes} (h0 : ¬ (D.write i bs).1 = 0) : Up (D.write i bs).2 n := by
  rw [hU.write_fail h0]; exact hU
theorem WantOk.fail {D : Dev} {n : Nat} {kv : Kv} (hw : WantOk D kv) (hU : Up D n) {i : Int} {bs : Bytes} (h0 : ¬ (D.write i bs).1 = 0) : WantOk (D.write i bs).2 kv := by
  rw [hU.write_fail h0]; exact hw
theorem WantOk.get {D : Dev} {kv : Kv} {i : Int} (h : WantOk D kv) (hi : i ∈ D.es.map (·.1)) : mget kv i = some (.bool true) := by
  rw [← h.keys] at hi
  obtain ⟨x, hx, rfl⟩ := List.mem_map.1 hi
  unfold mget
  cases hf : kv.find? (fun y => decide (y.1 = x.1)) with
  | none =>
    have := List.find?_eq_none.1 hf x hx
    simp at this
  | some y =>
    have := h.all y (List.mem_of_find?_eq_some hf)
    simp [this]
theorem pend_at {D : Dev} {k : Nat} (h : k < D.es.length) : ∃ i, D.pending[k]? = some i ∧ i ∈ D.es.map (·.1) := by
  have hl : k < D.pending.length := by rw [pending_length]; exact h
  exact ⟨D.pending[k], List.getElem?_eq_getElem hl, (List.mergeSort_perm _ _).mem_iff.1 (List.getElem_mem hl)⟩
theorem pend_lt {D : Dev} (hD : D.ok) {k : Nat} {i j : Int} (hi : D.pending[k]? = some i) (hj : D.pending[k + 1]? = some j) : i < j := by
  obtain ⟨h1, h2⟩ := List.getElem?_eq_some_iff.1 hi
  obtain ⟨h3, h4⟩ := List.getElem?_eq_some_iff.1 hj
  have hs : D.pending.Pairwise (fun x y => decide (x ≤ y) = true) :=
    List.pairwise_mergeSort (fun x y z h1 h2 => by simp at *; omega) (fun x y => by simp; omega) _
  have hn : D.pending.Nodup := (List.mergeSort_perm _ _).nodup_iff.2 hD.uniq
  have a1 := List.pairwise_iff_getElem.1 hs k (k + 1) h1 h3 (by omega)
  have a2 := List.pairwise_iff_getElem.1 hn k (k + 1) h1 h3 (by omega)
  rw [h2, h4] at a1 a2
  simp at a1
  omega
theorem write_up_n {D : Dev} {n : Nat} (hU : Up D n) : D.es.length ≤ 512 := es_le hU.ok
theorem barrier_es {D : Dev} {n : Nat} (hU : Up D n) : D.barrier.2.es = [] := by rw [hU.barrier]
theorem lose_es (D : Dev) : D.lose.es = [] := rfl
end Go.Sl
