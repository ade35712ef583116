/- A part of the proof: contracts and plain lemmas, each without conditions beyond those that it names. -/
import Derived.Test.YtnedokioglfipaaSecB
set_option linter.unusedVariables false
set_option linter.unusedSimpArgs false
set_option linter.constructorNameAsVariable false
namespace Go.Sl
set_option linter.unusedSimpArgs false
/-! what a sector tells, plain -/
theorem ehas_find {es : Es} {k : Int} (h : ¬ ehas es k = true) : es.find? (fun x => decide (x.1 = k)) = none := by
  rw [List.find?_eq_none]
  intro x hx hd
  exact h (List.any_eq_true.2 ⟨x, hx, hd⟩)
theorem eset_same {es : Es} {k : Int} (s : Bytes) (h : ehas es k = true) : eget (eset es k s) k = some s := by
  unfold eget eset
  induction es with
  | nil => simp [ehas] at h
  | cons x es ih =>
    by_cases e : x.1 = k
    · simp [e]
    · rw [List.map_cons, if_neg e, List.find?_cons_of_neg (by simpa using e)]
      refine ih ?_
      unfold ehas at h ⊢
      rw [List.any_cons] at h
      simpa [e] using h
theorem eset_other (es : Es) {k i : Int} (s : Bytes) (hk : k ≠ i) : eget (eset es k s) i = eget es i := by
  unfold eget eset
  induction es with
  | nil => rfl
  | cons x es ih =>
    by_cases e : x.1 = k
    · rw [List.map_cons, if_pos e, List.find?_cons_of_neg (by simpa using hk), List.find?_cons_of_neg (by simp; omega)]
      exact ih
    · rw [List.map_cons, if_neg e]
      by_cases e2 : x.1 = i
      · rw [List.find?_cons_of_pos (by simpa using e2), List.find?_cons_of_pos (by simpa using e2)]
      · rw [List.find?_cons_of_neg (by simpa using e2), List.find?_cons_of_neg (by simpa using e2)]
        exact ih
theorem eget_eput_same (es : Es) (c : Nat) (k : Int) (s : Bytes) : eget (eput es c k s) k = some s := by
  unfold eput
  by_cases h : ehas es k = true
  · rw [if_pos h]; exact eset_same s h
  · rw [if_neg h]
    unfold eget
    rw [List.find?_append, ehas_find h]
    simp
theorem eget_eput_other (es : Es) (c : Nat) {k i : Int} (hk : k ≠ i) (s : Bytes) : eget (eput es c k s) i = eget es i := by
  unfold eput
  by_cases h : ehas es k = true
  · rw [if_pos h]; exact eset_other es s hk
  · rw [if_neg h]
    unfold eget
    rw [List.find?_append]
    cases es.find? (fun x => decide (x.1 = i)) with
    | none => simp [hk]
    | some x => simp
/-- Settled: what was pending lies there. -/
theorem settleD_get : ∀ {es : Es} {ls : List Bytes} {i : Int}, (es.map (·.1)).Nodup → (∀ x ∈ es, 0 ≤ x.1) → 0 ≤ i → i < ls.length →
    (settleD es ls)[i.toNat]? = (eget es i).or (ls[i.toNat]?)
  | [], ls, i, _, _, _, _ => by simp [settleD, eget]
  | x :: es, ls, i, hn, hp, h0, h1 => by
    have hn' := List.nodup_cons.1 hn
    rw [settleD_cons, settleD_get hn'.2 (fun y hy => hp y (by simp [hy])) h0 (by simpa using h1)]
    have hx := hp x (by simp)
    unfold eget
    by_cases e : x.1 = i
    · subst e
      have : es.find? (fun y => decide (y.1 = x.1)) = none := by
        rw [List.find?_eq_none]
        intro y hy hd
        exact hn'.1 (List.mem_map.2 ⟨y, hy, by simpa using hd⟩)
      rw [this, List.find?_cons_of_pos (by simp)]
      simp [show x.1.toNat < ls.length by omega]
    · rw [List.find?_cons_of_neg (by simpa using e), List.getElem?_set_ne (by omega)]
theorem play_len {D : Dev} {a : ActM} : (D.play a).l.length = D.l.length := by
  unfold Dev.play
  split
  · rw [write_l]
  · split
    · exact barrier_l
    · split
      · rfl
      · split
        · simp [Dev.crash, crashL_length]
        · split
          · simp [Dev.lose]
          · rfl
theorem actsV_at {l : List ActM} {k : Nat} {a : ActM} (h : l[k]? = some a) : (actsV l)[k * 4]? = some (.int .i64 a.kind) ∧ (actsV l)[k * 4 + 1]? = some (.int .i64 a.i) ∧ (actsV l)[k * 4 + 2]? = some a.bv ∧ (actsV l)[k * 4 + 3]? = some a.kv := by
  have h1 := actsV_get l k a h
  have g : ∀ r, r < 4 → (actsV l)[k * 4 + r]? = a.cells[r]? := fun r hr => by
    rw [← h1, List.getElem?_take, if_pos hr, List.getElem?_drop]
  exact ⟨g 0 (by omega), g 1 (by omega), g 2 (by omega), g 3 (by omega)⟩
theorem pad_take {bs : Bytes} {sp : List Value} : ((bytesV (pad bs) ++ sp).drop 0).take bs.length = bytesV bs := by
  unfold pad
  rw [List.drop_zero, bytesV_append, List.append_assoc, List.take_append_of_le_length (by simp), List.take_of_length_le (by simp)]
theorem pad_zero {bs : Bytes} {sp : List Value} {k : Nat} (h0 : bs.length ≤ k) (h1 : k < 144) : (bytesV (pad bs) ++ sp)[k]? = some (.int .u8 0) := by
  unfold pad
  rw [List.getElem?_append_left (by simp; omega), bytesV_append, List.getElem?_append_right (by simpa using h0)]
  simp [bytesV, List.getElem?_replicate]
  omega
/-- A device that is up and has no fuse. -/
structure Up (D : Dev) (n : Nat) : Prop where
  ok : D.ok
  len : D.l.length = n
  live : D.dead = false
  fuse : D.fuse = -1
theorem Up.act {D : Dev} {n : Nat} (h : Up D n) : D.act = (0, D) := by
  unfold Dev.act
  rw [if_neg (by rw [h.fuse]; decide), if_neg (by rw [h.fuse]; decide)]
theorem Up.has {D : Dev} {n : Nat} (h : Up D n) (i : Int) : D.has i = if i < 0 ∨ (n : Int) ≤ i then 2 else 0 := by
  unfold Dev.has
  rw [if_neg (by rw [h.live]; decide), h.len]
theorem Up.write {D : Dev} {n : Nat} (h : Up D n) (i : Int) (bs : Bytes) :
    D.write i bs = if i < 0 ∨ (n : Int) ≤ i then (2, D) else if (144 : Int) < bs.length then (3, D) else (0, { D with es := eput D.es D.clk i (pad bs), clk := eclk D.es D.clk i }) := by
  unfold Dev.write
  rw [h.has, h.act]
  by_cases h1 : i < 0 ∨ (n : Int) ≤ i
  · simp [h1]
  · by_cases h2 : (144 : Int) < bs.length
    · simp [h1, h2]
    · simp [h1, h2]
theorem Up.write_up {D : Dev} {n : Nat} (h : Up D n) (i : Int) (bs : Bytes) : Up (D.write i bs).2 n := by
  have hw := h.write i bs
  refine ⟨Dev.write_ok h.ok i bs, by rw [write_l]; exact h.len, ?_, ?_⟩
  · rw [hw]; split <;> (try split) <;> exact h.live
  · rw [hw]; split <;> (try split) <;> exact h.fuse
theorem Up.barrier {D : Dev} {n : Nat} (h : Up D n) : D.barrier = (0, { D with l := settleD D.es D.l, es := [] }) := by
  unfold Dev.barrier
  rw [if_neg (by rw [h.live]; decide), h.act]
  simp
theorem Up.barrier_up {D : Dev} {n : Nat} (h : Up D n) : Up D.barrier.2 n := by
  have hw := h.barrier
  refine ⟨Dev.barrier_ok h.ok, by rw [barrier_l]; exact h.len, ?_, ?_⟩
  · rw [hw]; exact h.live
  · rw [hw]; exact h.fuse
theorem crash_up {D : Dev} (h : D.ok) (ks : Keeps) : Up (D.crash ks) D.l.length :=
  ⟨Dev.crash_ok h ks, by simp [Dev.crash, crashL_length], rfl, rfl⟩
theorem lose_up {D : Dev} (h : D.ok) : Up D.lose D.l.length := ⟨Dev.lose_ok h, by simp [Dev.lose], rfl, rfl⟩
theorem Up.sec_write_other {D : Dev} {n : Nat} (h : Up D n) {i j : Int} (hij : j ≠ i) (bs : Bytes) : (D.write j bs).2.sec i = D.sec i := by
  rw [h.write]
  split
  · rfl
  · split
    · rfl
    · unfold Dev.sec
      simp only
      rw [eget_eput_other _ _ hij]
theorem Up.sec_write_same {D : Dev} {n : Nat} (h : Up D n) {i : Int} {bs : Bytes} (h0 : (D.write i bs).1 = 0) : (D.write i bs).2.sec i = pad bs ∧ 0 ≤ i ∧ i < n ∧ bs.length ≤ 144 := by
  rw [h.write] at h0 ⊢
  split at h0
  · simp at h0
  · rename_i h1
    split at h0
    · simp at h0
    · rename_i h2
      rw [if_neg h1, if_neg h2]
      unfold Dev.sec
      simp only
      rw [eget_eput_same]
      exact ⟨rfl, by omega, by omega, by omega⟩
theorem Up.sec_barrier {D : Dev} {n : Nat} (h : Up D n) {i : Int} (h0 : 0 ≤ i) (h1 : i < n) : D.barrier.2.sec i = D.sec i := by
  rw [h.barrier]
  unfold Dev.sec
  simp only
  rw [settleD_get h.ok.uniq (fun x hx => (h.ok.keys x hx).1) h0 (by rw [h.len]; exact h1)]
  cases eget D.es i with
  | none => rfl
  | some s => rfl
end Go.Sl
