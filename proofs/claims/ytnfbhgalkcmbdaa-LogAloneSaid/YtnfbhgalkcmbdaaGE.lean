/- A part of the proof: contracts and plain lemmas, each without conditions beyond those that it names. -/
import Derived.Test.YtnfbhgalkcmbdaaGC
set_option linter.unusedVariables false
set_option linter.unusedSimpArgs false
set_option linter.constructorNameAsVariable false
namespace Go.Sl
/-! the device that 'awake' tries -/
def aD0 : Dev := Dev.new 2
def aD1 : Dev := (aD0.write 1 [97, 98]).2
def aD2 : Dev := aD1.barrier.2
def aD3 : Dev := (aD2.write 1 [120, 121, 122]).2
def aD4 : Dev := aD3.crash [(2, 1)]
def aD5 : Dev := aD4.setFuse 0
def aD6 : Dev := (aD5.write 0 []).2
theorem aD0_ok : aD0.ok := Dev.new_ok (by decide)
theorem aD1_ok : aD1.ok := Dev.write_ok aD0_ok _ _
theorem aD2_ok : aD2.ok := Dev.barrier_ok aD1_ok
theorem aD3_ok : aD3.ok := Dev.write_ok aD2_ok _ _
theorem aD4_ok : aD4.ok := Dev.crash_ok aD3_ok _
theorem aD5_ok : aD5.ok := Dev.setFuse_ok aD4_ok (by decide)
theorem aw1 : (aD0.write 1 [97, 98]).1 = 0 := by decide
theorem aw2 : aD1.barrier.1 = 0 := by decide
theorem aw3 : (aD2.write 1 [120, 121, 122]).1 = 0 := by decide
theorem aw3e : aD3.es.map (·.1) = [1] := by decide
theorem aw3n : aD3.es.length = 1 := by decide
theorem aw3p : aD3.pending = [1] := by unfold Dev.pending; rw [aw3e]; simp
theorem aw4 : aD4 = { aD3 with l := crashL aD3 [1] [(2, 1)] aD3.l, es := [], dead := false, fuse := -1 } := by unfold aD4 Dev.crash; rw [aw3p]
theorem aw4h : aD4.has 1 = 0 := by rw [aw4]; decide
theorem aw4s : (aD4.sec 1).take 3 = [120, 98, 0] := by rw [aw4]; decide
theorem aw6 : (aD5.write 0 []).1 = 30 := by unfold aD5; rw [aw4]; decide
theorem aw6d : aD6.dead = true := by unfold aD6 aD5; rw [aw4]; decide
theorem aw6l : aD6.l.length = 2 := by unfold aD6 aD5; rw [aw4]; decide

/-! acts, as they are told -/
structure ActM where
  kind : Int
  i : Int
  bv : Value
  bs : Bytes
  kv : Value
  ks : Keeps
def ActM.cells (a : ActM) : List Value := [.int .i64 a.kind, .int .i64 a.i, a.bv, a.kv]
structure ActM.ok [Env] (R : List Seg) (a : ActM) : Prop where
  bytes : RdB R a.bv a.bs
  keeps : RdV R a.kv a.ks.length (keepsV a.ks)
  int : a.i ≤ 9223372036854775807
theorem ActM.ok.mono [Env] {R R' : List Seg} {a : ActM} (h : a.ok R) (hg : Ge R' R) : a.ok R' := ⟨h.bytes.mono hg, h.keeps.mono hg, h.int⟩
theorem cells_one [Env] {R : List Seg} {a : ActM} (h : a.ok R) : ∀ u ∈ a.cells, u.oneCell' = true := by
  intro u hu
  obtain ⟨b, c, e⟩ := h.bytes.lenVal
  obtain ⟨b', c', e'⟩ := h.keeps.lenVal
  simp only [ActM.cells, List.mem_cons, List.not_mem_nil, or_false] at hu
  rcases hu with rfl | rfl | rfl | rfl
  · rfl
  · rfl
  · rw [e]; rfl
  · rw [e']; rfl
def actsV (l : List ActM) : List Value := (l.map ActM.cells).flatten
theorem actsV_get : ∀ (l : List ActM) (k : Nat) (a : ActM), l[k]? = some a → ((actsV l).drop (k * 4)).take 4 = a.cells
  | [], k, x, h => by simp at h
  | y :: ks, 0, x, h => by simp at h; subst h; simp [actsV, ActM.cells]
  | y :: ks, k + 1, x, h => by
    have := actsV_get ks k x (by simpa using h)
    rw [show (k + 1) * 4 = 4 + k * 4 by omega, ← List.drop_drop]
    simpa [actsV, ActM.cells] using this
def ActM.large (a : ActM) : Bool := decide ((1000 : Int) < a.bs.length) || decide ((600 : Int) < a.ks.length)
def Dev.play (D : Dev) (a : ActM) : Dev :=
  if a.kind = 0 then (D.write a.i a.bs).2 else if a.kind = 1 then D.barrier.2 else if a.kind = 2 then D.setFuse a.i else if a.kind = 3 then D.crash a.ks else if a.kind = 4 then D.lose else D
theorem Dev.play_ok {D : Dev} (h : D.ok) {a : ActM} (ha : a.i ≤ 9223372036854775807) : (D.play a).ok := by
  unfold Dev.play
  split
  · exact Dev.write_ok h _ _
  · split
    · exact Dev.barrier_ok h
    · split
      · exact Dev.setFuse_ok h ha
      · split
        · exact Dev.crash_ok h _
        · split
          · exact Dev.lose_ok h
          · exact h
end Go.Sl

namespace Go.Sl
set_option linter.unusedSimpArgs false
/-! the fuse's law, plain -/
theorem bAnd15 (p : Int) : 0 ≤ bAnd .i64 p 15 ∧ bAnd .i64 p 15 < 16 := by
  have h : (BitVec.ofInt 64 p &&& BitVec.ofInt 64 15).toNat ≤ 15 := by
    rw [BitVec.toNat_and]
    exact Nat.le_trans Nat.and_le_right (by decide)
  unfold bAnd
  rw [show IntKind.i64.bits = 64 from rfl, wr (by omega) (by omega)]
  omega
/-- How a device is, when so many acts are left. -/
def Fz (D : Dev) (left : Int) : Prop := (0 ≤ left → D.dead = false ∧ D.fuse = left) ∧ (left < 0 → D.dead = true)
/-- What one act more does. -/
def Fstep (left r : Int) (D' : Dev) : Prop := (0 < left → r = 0) ∧ (left ≤ 0 → r = 30) ∧ D'.dead = decide (left ≤ 0) ∧ Fz D' (left - 1)
theorem act_f {D : Dev} {left : Int} (h : Fz D left) (hl : 0 ≤ left) (hs : left < 1000) : Fstep left D.act.1 D.act.2 := by
  obtain ⟨h1, h2⟩ := h.1 hl
  unfold Dev.act
  by_cases h0 : D.fuse = 0
  · rw [if_pos h0]
    have : left = 0 := by omega
    subst this
    exact ⟨by omega, by simp, by simp, by unfold Fz; simp⟩
  · rw [if_neg h0, if_pos (by omega)]
    refine ⟨by simp, by omega, ?_, ?_⟩
    · simp [h1]; omega
    · rw [wr (by omega) (by omega)]
      exact ⟨fun _ => ⟨h1, by simp [h2]⟩, by omega⟩
theorem write_f {D : Dev} {left i : Int} {bs : Bytes} (h : Fz D left) (hs : left < 1000) (hi : 0 ≤ i) (hi1 : i < D.l.length) (hb : bs.length ≤ 144) : Fstep left (D.write i bs).1 (D.write i bs).2 := by
  by_cases hl : 0 ≤ left
  · have ha := act_f h hl hs
    obtain ⟨h1, h2⟩ := h.1 hl
    have hh : D.has i = 0 := by unfold Dev.has; simp [h1]; omega
    unfold Dev.write
    rw [if_neg (by simpa using hh), if_neg (by omega)]
    split
    · exact ha
    · rename_i h3
      have h3' : D.act.1 = 0 := by simpa using h3
      exact ⟨fun _ => rfl, fun h4 => by have := ha.2.1 h4; omega, ha.2.2.1, ha.2.2.2⟩
  · have hd := h.2 (by omega)
    have hh : D.has i = 30 := by unfold Dev.has; simp [hd]
    unfold Dev.write
    rw [if_pos (by rw [hh]; decide), hh]
    exact ⟨by omega, fun _ => rfl, by simp [hd]; omega, ⟨by omega, fun _ => hd⟩⟩
theorem barrier_f {D : Dev} {left : Int} (h : Fz D left) (hs : left < 1000) : Fstep left D.barrier.1 D.barrier.2 := by
  by_cases hl : 0 ≤ left
  · have ha := act_f h hl hs
    obtain ⟨h1, h2⟩ := h.1 hl
    unfold Dev.barrier
    rw [if_neg (by simp [h1])]
    split
    · exact ha
    · rename_i h3
      have h3' : D.act.1 = 0 := by simpa using h3
      exact ⟨fun _ => rfl, fun h4 => by have := ha.2.1 h4; omega, ha.2.2.1, ha.2.2.2⟩
  · have hd := h.2 (by omega)
    unfold Dev.barrier
    rw [if_pos hd]
    exact ⟨by omega, fun _ => rfl, by simp [hd]; omega, ⟨by omega, fun _ => hd⟩⟩
theorem barrier_l {D : Dev} : D.barrier.2.l.length = D.l.length := by
  unfold Dev.barrier
  split
  · rfl
  · split
    · rw [act_l]
    · simp
theorem fuse_f {D : Dev} (h : D.dead = false) {n : Int} (hn : 0 ≤ n) : Fz (D.setFuse n) n :=
  ⟨fun _ => ⟨h, by simp [Dev.setFuse]; omega⟩, by omega⟩
end Go.Sl

namespace Go.Sl
set_option linter.unusedSimpArgs false
/-! what a sector tells, plain -/
theorem ehas_find {es : Es} {k : Int} (h : ¬ ehas es k = true) : es.find? (fun x => decide (x.1 = k)) = none := by
  rw [List.find?_eq_none]
  intro x hx hd
  exact h (List.any_eq_true.2 ⟨x, hx, hd⟩)
theorem eset_same {es : Es} {k : Int} (s : Bytes) (h : ehas es k = true) : eget (eset es k s) k = some s := by
  unfold eget eset
  induction es with
  | nil => simp [ehas] at h
  | cons x es ih =>
    by_cases e : x.1 = k
    · simp [e]
    · rw [List.map_cons, if_neg e, List.find?_cons_of_neg (by simpa using e)]
      refine ih ?_
      unfold ehas at h ⊢
      rw [List.any_cons] at h
      simpa [e] using h
theorem eset_other (es : Es) {k i : Int} (s : Bytes) (hk : k ≠ i) : eget (eset es k s) i = eget es i := by
  unfold eget eset
  induction es with
  | nil => rfl
  | cons x es ih =>
    by_cases e : x.1 = k
    · rw [List.map_cons, if_pos e, List.find?_cons_of_neg (by simpa using hk), List.find?_cons_of_neg (by simp; omega)]
      exact ih
    · rw [List.map_cons, if_neg e]
      by_cases e2 : x.1 = i
      · rw [List.find?_cons_of_pos (by simpa using e2), List.find?_cons_of_pos (by simpa using e2)]
      · rw [List.find?_cons_of_neg (by simpa using e2), List.find?_cons_of_neg (by simpa using e2)]
        exact ih
theorem eget_eput_same (es : Es) (c : Nat) (k : Int) (s : Bytes) : eget (eput es c k s) k = some s := by
  unfold eput
  by_cases h : ehas es k = true
  · rw [if_pos h]; exact eset_same s h
  · rw [if_neg h]
    unfold eget
    rw [List.find?_append, ehas_find h]
    simp
theorem eget_eput_other (es : Es) (c : Nat) {k i : Int} (hk : k ≠ i) (s : Bytes) : eget (eput es c k s) i = eget es i := by
  unfold eput
  by_cases h : ehas es k = true
  · rw [if_pos h]; exact eset_other es s hk
  · rw [if_neg h]
    unfold eget
    rw [List.find?_append]
    cases es.find? (fun x => decide (x.1 = i)) with
    | none => simp [hk]
    | some x => simp
/-- Settled: what was pending lies there. -/
theorem settleD_get : ∀ {es : Es} {ls : List Bytes} {i : Int}, (es.map (·.1)).Nodup → (∀ x ∈ es, 0 ≤ x.1) → 0 ≤ i → i < ls.length →
    (settleD es ls)[i.toNat]? = (eget es i).or (ls[i.toNat]?)
  | [], ls, i, _, _, _, _ => by simp [settleD, eget]
  | x :: es, ls, i, hn, hp, h0, h1 => by
    have hn' := List.nodup_cons.1 hn
    rw [settleD_cons, settleD_get hn'.2 (fun y hy => hp y (by simp [hy])) h0 (by simpa using h1)]
    have hx := hp x (by simp)
    unfold eget
    by_cases e : x.1 = i
    · subst e
      have : es.find? (fun y => decide (y.1 = x.1)) = none := by
        rw [List.find?_eq_none]
        intro y hy hd
        exact hn'.1 (List.mem_map.2 ⟨y, hy, by simpa using hd⟩)
      rw [this, List.find?_cons_of_pos (by simp)]
      simp [show x.1.toNat < ls.length by omega]
    · rw [List.find?_cons_of_neg (by simpa using e), List.getElem?_set_ne (by omega)]
theorem play_len {D : Dev} {a : ActM} : (D.play a).l.length = D.l.length := by
  unfold Dev.play
  split
  · rw [write_l]
  · split
    · exact barrier_l
    · split
      · rfl
      · split
        · simp [Dev.crash, crashL_length]
        · split
          · simp [Dev.lose]
          · rfl
theorem actsV_at {l : List ActM} {k : Nat} {a : ActM} (h : l[k]? = some a) : (actsV l)[k * 4]? = some (.int .i64 a.kind) ∧ (actsV l)[k * 4 + 1]? = some (.int .i64 a.i) ∧ (actsV l)[k * 4 + 2]? = some a.bv ∧ (actsV l)[k * 4 + 3]? = some a.kv := by
  have h1 := actsV_get l k a h
  have g : ∀ r, r < 4 → (actsV l)[k * 4 + r]? = a.cells[r]? := fun r hr => by
    rw [← h1, List.getElem?_take, if_pos hr, List.getElem?_drop]
  exact ⟨g 0 (by omega), g 1 (by omega), g 2 (by omega), g 3 (by omega)⟩
theorem pad_take {bs : Bytes} {sp : List Value} : ((bytesV (pad bs) ++ sp).drop 0).take bs.length = bytesV bs := by
  unfold pad
  rw [List.drop_zero, bytesV_append, List.append_assoc, List.take_append_of_le_length (by simp), List.take_of_length_le (by simp)]
theorem pad_zero {bs : Bytes} {sp : List Value} {k : Nat} (h0 : bs.length ≤ k) (h1 : k < 144) : (bytesV (pad bs) ++ sp)[k]? = some (.int .u8 0) := by
  unfold pad
  rw [List.getElem?_append_left (by simp; omega), bytesV_append, List.getElem?_append_right (by simpa using h0)]
  simp [bytesV, List.getElem?_replicate]
  omega
/-- A device that is up and has no fuse. -/
structure Up (D : Dev) (n : Nat) : Prop where
  ok : D.ok
  len : D.l.length = n
  live : D.dead = false
  fuse : D.fuse = -1
theorem Up.act {D : Dev} {n : Nat} (h : Up D n) : D.act = (0, D) := by
  unfold Dev.act
  rw [if_neg (by rw [h.fuse]; decide), if_neg (by rw [h.fuse]; decide)]
theorem Up.has {D : Dev} {n : Nat} (h : Up D n) (i : Int) : D.has i = if i < 0 ∨ (n : Int) ≤ i then 2 else 0 := by
  unfold Dev.has
  rw [if_neg (by rw [h.live]; decide), h.len]
theorem Up.write {D : Dev} {n : Nat} (h : Up D n) (i : Int) (bs : Bytes) :
    D.write i bs = if i < 0 ∨ (n : Int) ≤ i then (2, D) else if (144 : Int) < bs.length then (3, D) else (0, { D with es := eput D.es D.clk i (pad bs), clk := eclk D.es D.clk i }) := by
  unfold Dev.write
  rw [h.has, h.act]
  by_cases h1 : i < 0 ∨ (n : Int) ≤ i
  · simp [h1]
  · by_cases h2 : (144 : Int) < bs.length
    · simp [h1, h2]
    · simp [h1, h2]
theorem Up.write_up {D : Dev} {n : Nat} (h : Up D n) (i : Int) (bs : Bytes) : Up (D.write i bs).2 n := by
  have hw := h.write i bs
  refine ⟨Dev.write_ok h.ok i bs, by rw [write_l]; exact h.len, ?_, ?_⟩
  · rw [hw]; split <;> (try split) <;> exact h.live
  · rw [hw]; split <;> (try split) <;> exact h.fuse
theorem Up.barrier {D : Dev} {n : Nat} (h : Up D n) : D.barrier = (0, { D with l := settleD D.es D.l, es := [] }) := by
  unfold Dev.barrier
  rw [if_neg (by rw [h.live]; decide), h.act]
  simp
theorem Up.barrier_up {D : Dev} {n : Nat} (h : Up D n) : Up D.barrier.2 n := by
  have hw := h.barrier
  refine ⟨Dev.barrier_ok h.ok, by rw [barrier_l]; exact h.len, ?_, ?_⟩
  · rw [hw]; exact h.live
  · rw [hw]; exact h.fuse
theorem crash_up {D : Dev} (h : D.ok) (ks : Keeps) : Up (D.crash ks) D.l.length :=
  ⟨Dev.crash_ok h ks, by simp [Dev.crash, crashL_length], rfl, rfl⟩
theorem lose_up {D : Dev} (h : D.ok) : Up D.lose D.l.length := ⟨Dev.lose_ok h, by simp [Dev.lose], rfl, rfl⟩
theorem Up.sec_write_other {D : Dev} {n : Nat} (h : Up D n) {i j : Int} (hij : j ≠ i) (bs : Bytes) : (D.write j bs).2.sec i = D.sec i := by
  rw [h.write]
  split
  · rfl
  · split
    · rfl
    · unfold Dev.sec
      simp only
      rw [eget_eput_other _ _ hij]
theorem Up.sec_write_same {D : Dev} {n : Nat} (h : Up D n) {i : Int} {bs : Bytes} (h0 : (D.write i bs).1 = 0) : (D.write i bs).2.sec i = pad bs ∧ 0 ≤ i ∧ i < n ∧ bs.length ≤ 144 := by
  rw [h.write] at h0 ⊢
  split at h0
  · simp at h0
  · rename_i h1
    split at h0
    · simp at h0
    · rename_i h2
      rw [if_neg h1, if_neg h2]
      unfold Dev.sec
      simp only
      rw [eget_eput_same]
      exact ⟨rfl, by omega, by omega, by omega⟩
theorem Up.sec_barrier {D : Dev} {n : Nat} (h : Up D n) {i : Int} (h0 : 0 ≤ i) (h1 : i < n) : D.barrier.2.sec i = D.sec i := by
  rw [h.barrier]
  unfold Dev.sec
  simp only
  rw [settleD_get h.ok.uniq (fun x hx => (h.ok.keys x hx).1) h0 (by rw [h.len]; exact h1)]
  cases eget D.es i with
  | none => rfl
  | some s => rfl
end Go.Sl

namespace Go.Sl
set_option linter.unusedSimpArgs false
/-- The first sectors, as strings. -/
def secStr (D : Dev) (k : Nat) : List Value := (List.range k).map fun (j : Nat) => .string ⟨(D.sec (j : Int)).toArray⟩
theorem secStr_succ (D : Dev) (k : Nat) : secStr D (k + 1) = secStr D k ++ [.string ⟨(D.sec k).toArray⟩] := by simp [secStr, List.range_succ]
theorem secStr_get {D : Dev} {n k : Nat} (h : k < n) : (secStr D n)[k]? = some (.string ⟨(D.sec k).toArray⟩) := by simp [secStr, h]
theorem sec_crash_nil {D : Dev} (he : D.es = []) (ks : Keeps) (i : Int) : (D.crash ks).sec i = D.sec i := by
  have hp : D.pending = [] := by simp [Dev.pending, he]
  unfold Dev.sec Dev.crash
  simp only [hp, crashL_nil, he]
theorem crash_es (D : Dev) (ks : Keeps) : (D.crash ks).es = [] := rfl
theorem sec_lose {D : Dev} {i : Int} (h0 : 0 ≤ i) (h1 : i < D.l.length) : D.lose.sec i = zsec := by
  unfold Dev.sec Dev.lose
  simp only [eget, List.find?_nil, Option.map_none, Option.getD_none]
  rw [List.getElem?_replicate, if_pos (by omega)]
  rfl
theorem sec_take {s : Bytes} {sp : List Value} (h : s.length = 144) : ((bytesV s ++ sp).drop 0).take 144 = bytesV s := by
  rw [List.drop_zero, List.take_append_of_le_length (by simp [h]), List.take_of_length_le (by simp [h])]
theorem zsec_get {sp : List Value} {k : Nat} (h : k < 144) : (bytesV zsec ++ sp)[k]? = some (.int .u8 0) := by
  rw [List.getElem?_append_left (by simpa using h)]
  unfold bytesV zsec
  rw [List.map_replicate, List.getElem?_replicate, if_pos h]
  rfl
end Go.Sl

namespace Go.Sl
set_option linter.unusedSimpArgs false
/-! what is wanted to be pending -/
structure WantOk (D : Dev) (kv : Kv) : Prop where
  keys : kv.map (·.1) = D.es.map (·.1)
  all : ∀ x ∈ kv, x.2.1 = .bool true
theorem WantOk.len {D : Dev} {kv : Kv} (h : WantOk D kv) : kv.length = D.es.length := by
  have := congrArg List.length h.keys
  simpa using this
theorem WantOk.uniq {D : Dev} {kv : Kv} (h : WantOk D kv) (hD : D.ok) : uniq kv := by
  unfold Sl.uniq; rw [h.keys]; exact hD.uniq
theorem WantOk.nil {D : Dev} (h : D.es = []) : WantOk D [] := ⟨by rw [h]; rfl, by simp⟩
theorem any_keys {kv : Kv} {es : Es} (h : kv.map (·.1) = es.map (·.1)) (k : Int) : kv.any (fun x => decide (x.1 = k)) = ehas es k := by
  have h1 : kv.any (fun x => decide (x.1 = k)) = (kv.map (·.1)).any (fun x => decide (x = k)) := by rw [List.any_map]; rfl
  have h2 : ehas es k = (es.map (·.1)).any (fun x => decide (x = k)) := by rw [List.any_map]; rfl
  rw [h1, h2, h]
theorem WantOk.put {D : Dev} {n : Nat} {kv : Kv} {c : Nat} {i : Int} {bs : Bytes} (h : WantOk D kv) (hU : Up D n) (h0 : (D.write i bs).1 = 0) : WantOk (D.write i bs).2 (mput kv c i (.bool true)) := by
  rw [hU.write] at h0 ⊢
  split at h0
  · simp at h0
  · rename_i h1
    split at h0
    · simp at h0
    · rename_i h2
      rw [if_neg h1, if_neg h2]
      have ha := any_keys h.keys i
      unfold mput eput
      rw [ha]
      by_cases hh : ehas D.es i = true
      · rw [if_pos hh, if_pos hh]
        refine ⟨?_, ?_⟩
        · have e1 : (mset kv i (.bool true)).map (·.1) = kv.map (·.1) := by
            simp only [mset, List.map_map]
            apply List.map_congr_left
            intro x _
            simp only [Function.comp]
            split <;> simp_all
          have e2 : (eset D.es i (pad bs)).map (·.1) = D.es.map (·.1) := by
            simp only [eset, List.map_map]
            apply List.map_congr_left
            intro x _
            simp only [Function.comp]
            split <;> simp_all
          rw [e1, h.keys]; exact e2.symm
        · intro x hx
          obtain ⟨y, hy, rfl⟩ := List.mem_map.1 hx
          split
          · rfl
          · exact h.all y hy
      · rw [if_neg hh, if_neg hh]
        refine ⟨by simp [h.keys], ?_⟩
        intro x hx
        rcases List.mem_append.1 hx with hx | hx
        · exact h.all x hx
        · simp at hx; subst hx; rfl
theorem Up.write_fail {D : Dev} {n : Nat} (hU : Up D n) {i : Int} {bs : Bytes} (h0 : ¬ (D.write i bs).1 = 0) : (D.write i bs).2 = D := by
  rw [hU.write] at h0 ⊢
  split
  · rfl
  · rename_i h1
    rw [if_neg h1] at h0
    split
    · rfl
    · rename_i h2
      rw [if_neg h2] at h0
      exact absurd rfl h0
theorem Up.fail {D : Dev} {n : Nat} (hU : Up D n) {i : Int} {bs : Bytes} (h0 : ¬ (D.write i bs).1 = 0) : Up (D.write i bs).2 n := by
  rw [hU.write_fail h0]; exact hU
theorem WantOk.fail {D : Dev} {n : Nat} {kv : Kv} (hw : WantOk D kv) (hU : Up D n) {i : Int} {bs : Bytes} (h0 : ¬ (D.write i bs).1 = 0) : WantOk (D.write i bs).2 kv := by
  rw [hU.write_fail h0]; exact hw
theorem WantOk.get {D : Dev} {kv : Kv} {i : Int} (h : WantOk D kv) (hi : i ∈ D.es.map (·.1)) : mget kv i = some (.bool true) := by
  rw [← h.keys] at hi
  obtain ⟨x, hx, rfl⟩ := List.mem_map.1 hi
  unfold mget
  cases hf : kv.find? (fun y => decide (y.1 = x.1)) with
  | none =>
    have := List.find?_eq_none.1 hf x hx
    simp at this
  | some y =>
    have := h.all y (List.mem_of_find?_eq_some hf)
    simp [this]
theorem pend_at {D : Dev} {k : Nat} (h : k < D.es.length) : ∃ i, D.pending[k]? = some i ∧ i ∈ D.es.map (·.1) := by
  have hl : k < D.pending.length := by rw [pending_length]; exact h
  exact ⟨D.pending[k], List.getElem?_eq_getElem hl, (List.mergeSort_perm _ _).mem_iff.1 (List.getElem_mem hl)⟩
theorem pend_lt {D : Dev} (hD : D.ok) {k : Nat} {i j : Int} (hi : D.pending[k]? = some i) (hj : D.pending[k + 1]? = some j) : i < j := by
  obtain ⟨h1, h2⟩ := List.getElem?_eq_some_iff.1 hi
  obtain ⟨h3, h4⟩ := List.getElem?_eq_some_iff.1 hj
  have hs : D.pending.Pairwise (fun x y => decide (x ≤ y) = true) :=
    List.pairwise_mergeSort (fun x y z h1 h2 => by simp at *; omega) (fun x y => by simp; omega) _
  have hn : D.pending.Nodup := (List.mergeSort_perm _ _).nodup_iff.2 hD.uniq
  have a1 := List.pairwise_iff_getElem.1 hs k (k + 1) h1 h3 (by omega)
  have a2 := List.pairwise_iff_getElem.1 hn k (k + 1) h1 h3 (by omega)
  rw [h2, h4] at a1 a2
  simp at a1
  omega
theorem write_up_n {D : Dev} {n : Nat} (hU : Up D n) : D.es.length ≤ 512 := es_le hU.ok
theorem barrier_es {D : Dev} {n : Nat} (hU : Up D n) : D.barrier.2.es = [] := by rw [hU.barrier]
theorem lose_es (D : Dev) : D.lose.es = [] := rfl
end Go.Sl

namespace Go.Sl
set_option linter.unusedSimpArgs false
/-! behind a barrier and a crash, plain -/
theorem barrier_fail {D : Dev} (h : ¬ D.barrier.1 = 0) : D.barrier.2.dead = true := by
  unfold Dev.barrier at h ⊢
  split at h
  · rename_i hd; rw [if_pos hd]; exact hd
  · rename_i hd
    rw [if_neg hd]
    split at h
    · rename_i ha
      rw [if_pos ha]
      unfold Dev.act at ha ⊢
      split
      · rfl
      · rename_i hf; rw [if_neg hf] at ha; exact absurd rfl ha
    · exact absurd rfl h
theorem barrier_live {D : Dev} (h : D.barrier.1 = 0) : D.barrier.2.dead = false ∧ D.barrier.2.es = [] := by
  unfold Dev.barrier at h ⊢
  split at h
  · simp at h
  · rename_i hd
    rw [if_neg hd]
    split at h
    · rename_i ha; exact absurd h ha
    · rename_i ha
      rw [if_neg ha]
      refine ⟨?_, rfl⟩
      have ha' : D.act.1 = 0 := by simpa using ha
      unfold Dev.act at ha' ⊢
      split at ha'
      · simp at ha'
      · rename_i hf
        rw [if_neg hf]
        split <;> simpa using hd
theorem sec_of_l {D : Dev} (h : D.es = []) (i : Int) : D.sec i = (D.l[i.toNat]?).getD zsec := by
  unfold Dev.sec; rw [h]; rfl
/-- A crash leaves a sector that isn't pending; of one that is, each byte is the old one or the new one. -/
theorem crashL_other {D : Dev} {i : Int} : ∀ (is : List Int) (ks : Keeps) (ls : List Bytes), (∀ j ∈ is, j.toNat ≠ i.toNat) → (crashL D is ks ls)[i.toNat]? = ls[i.toNat]?
  | [], ks, ls, _ => by rw [crashL_nil]
  | j :: is, [], ls, _ => rfl
  | j :: is, x :: ks, ls, h => by
    simp only [crashL]
    rw [crashL_other is ks _ (fun y hy => h y (by simp [hy])), List.getElem?_set_ne (h j (by simp))]
theorem keep1_byte {s old : Bytes} {x : Int × Int} (hs : s.length = 144) (ho : old.length = 144) {k : Nat} (hk : k < 144) : (keep1 s x old)[k]? = s[k]? ∨ (keep1 s x old)[k]? = old[k]? := by
  unfold keep1
  split
  · exact .inl rfl
  · split
    · have ht := torn_le x.2
      rcases Nat.lt_or_ge k (torn x.2) with h | h
      · left
        rw [List.getElem?_append_left (by simp [hs]; omega), List.getElem?_take, if_pos h]
      · right
        rw [List.getElem?_append_right (by simp [hs]; omega), List.getElem?_drop]
        congr 1
        simp [hs]; omega
    · exact .inr rfl
theorem crashL_byte {D : Dev} (hD : D.ok) {i : Int} (hi0 : 0 ≤ i) {k : Nat} (hk : k < 144) : ∀ (is : List Int) (ks : Keeps) (ls : List Bytes), is.Nodup → (∀ j ∈ is, 0 ≤ j ∧ j < ls.length) → (∀ s ∈ ls, s.length = 144) → i < ls.length →
    ((crashL D is ks ls)[i.toNat]?.getD zsec)[k]? = (D.sec i)[k]? ∨ ((crashL D is ks ls)[i.toNat]?.getD zsec)[k]? = (ls[i.toNat]?.getD zsec)[k]?
  | [], ks, ls, _, _, _, _ => by rw [crashL_nil]; exact .inr rfl
  | j :: is, [], ls, _, _, _, _ => .inr rfl
  | j :: is, x :: ks, ls, hn, hr, hl, hi => by
    have hn' := List.nodup_cons.1 hn
    have hj := hr j (by simp)
    simp only [crashL]
    by_cases e : j = i
    · subst e
      rw [crashL_other is ks _ (fun y hy => by
        have := hr y (by simp [hy])
        have : y ≠ j := fun e => hn'.1 (e ▸ hy)
        omega)]
      obtain ⟨old, ho⟩ := at_some hj.1 hj.2
      have hol := hl old (List.mem_of_getElem? ho)
      rw [ho, List.getElem?_set_self (by omega)]
      simp only [Option.getD_some]
      exact keep1_byte (sec_length hD j) hol hk
    · have hls : ∀ s ∈ ls.set j.toNat (keep1 (D.sec j) x (ls[j.toNat]?.getD [])), s.length = 144 := by
        obtain ⟨old, ho⟩ := at_some hj.1 hj.2
        refine set_len hl ?_
        rw [ho]
        exact keep1_length (sec_length hD j) (hl old (List.mem_of_getElem? ho))
      have := crashL_byte hD hi0 hk is ks (ls.set j.toNat (keep1 (D.sec j) x (ls[j.toNat]?.getD []))) hn'.2 (fun y hy => by simpa using hr y (by simp [hy])) hls (by simpa using hi)
      rw [List.getElem?_set_ne (by omega)] at this
      exact this
theorem sec_crash_other {D : Dev} (hD : D.ok) {ks : Keeps} {i : Int} (hi0 : 0 ≤ i) (h : i ∉ D.pending) : (D.crash ks).sec i = (D.l[i.toNat]?).getD zsec := by
  rw [sec_of_l (crash_es D ks)]
  unfold Dev.crash
  simp only
  rw [crashL_other _ _ _ (fun j hj => by
    obtain ⟨y, hy, e⟩ := List.mem_map.1 ((List.mergeSort_perm _ _).mem_iff.1 hj)
    have := (hD.keys y hy).1
    have : j ≠ i := fun e => h (e ▸ hj)
    omega)]
theorem sec_crash_byte {D : Dev} (hD : D.ok) {ks : Keeps} {i : Int} (hi0 : 0 ≤ i) (hi1 : i < D.l.length) {k : Nat} (hk : k < 144) :
    ((D.crash ks).sec i)[k]? = (D.sec i)[k]? ∨ ((D.crash ks).sec i)[k]? = ((D.l[i.toNat]?).getD zsec)[k]? := by
  rw [sec_of_l (crash_es D ks)]
  unfold Dev.crash
  simp only
  refine crashL_byte hD hi0 hk _ _ _ ((List.mergeSort_perm _ _).nodup_iff.2 hD.uniq) (fun j hj => ?_) hD.sec hi1
  obtain ⟨y, hy, rfl⟩ := List.mem_map.1 ((List.mergeSort_perm _ _).mem_iff.1 hj)
  exact hD.keys y hy
/-- The map that says what is pending. -/
structure PendOk (l : List Int) (kv : Kv) : Prop where
  keys : kv.map (·.1) = l
  all : ∀ x ∈ kv, x.2.1 = .bool true
theorem PendOk.put {l : List Int} {kv : Kv} {c : Nat} {i : Int} (h : PendOk l kv) (hi : i ∉ l) : PendOk (l ++ [i]) (mput kv c i (.bool true)) := by
  have : kv.any (fun x => decide (x.1 = i)) = false := by
    rw [List.any_eq_false]
    intro x hx hd
    exact hi (h.keys ▸ List.mem_map.2 ⟨x, hx, by simpa using hd⟩)
  unfold mput
  rw [if_neg (by rw [this]; decide)]
  refine ⟨by simp [h.keys], fun x hx => ?_⟩
  rcases List.mem_append.1 hx with hx | hx
  · exact h.all x hx
  · simp at hx; subst hx; rfl
theorem PendOk.get {l : List Int} {kv : Kv} {i : Int} (h : PendOk l kv) (hi : i ∈ l) : mget kv i = some (.bool true) := by
  rw [← h.keys] at hi
  obtain ⟨x, hx, rfl⟩ := List.mem_map.1 hi
  unfold mget
  cases hf : kv.find? (fun y => decide (y.1 = x.1)) with
  | none => have := List.find?_eq_none.1 hf x hx; simp at this
  | some y => have := h.all y (List.mem_of_find?_eq_some hf); simp [this]
theorem PendOk.none {l : List Int} {kv : Kv} {i : Int} (h : PendOk l kv) (hi : i ∉ l) : mget kv i = none := by
  unfold mget
  have : kv.find? (fun y => decide (y.1 = i)) = Option.none := by
    rw [List.find?_eq_none]
    intro x hx hd
    exact hi (h.keys ▸ List.mem_map.2 ⟨x, hx, by simpa using hd⟩)
  rw [this]; rfl
theorem bytesV_get {s : Bytes} {k : Nat} (h : k < s.length) : (bytesV s)[k]? = some (.int .u8 (s[k]?.getD 0).toNat) := by
  simp [bytesV, h]
theorem RdV.weak [Env] {R R' : List Seg} {v : Value} {m : Nat} {vs : List Value} (h : RdV R v m vs) (hg : ∀ w, Has w R' → Has w R) : RdV R' v m vs := by
  rcases h with h | ⟨a, c, h1, h3, h2⟩
  · exact .inl h
  · exact .inr ⟨a, c, h1, h3, fun w hh => h2 w (hg w hh)⟩
/-- Slices, each of which reads as a sector (where 'p' holds). -/
def RowsOk [Env] (sg : Seg) (vs : List Value) (p : Prop) (f : Nat → Bytes) : Prop := ∀ j v, vs[j]? = some v → v.oneCell' = true ∧ (p → RdV [sg] v 144 (bytesV (f j)))
theorem RowsOk.nil [Env] {sg : Seg} {p : Prop} {f : Nat → Bytes} : RowsOk sg [] p f := fun j v h => by simp at h
theorem RowsOk.add [Env] {sg s : Seg} {vs : List Value} {u : Value} {p : Prop} {f : Nat → Bytes} {k : Nat} (h : RowsOk sg vs p f) (hk : vs.length = k) (h1 : u.oneCell' = true) (h2 : p → RdV [s] u 144 (bytesV (f k))) : RowsOk (s ++ sg) (vs ++ [u]) p f := by
  intro j v hv
  rcases Nat.lt_or_ge j vs.length with hj | hj
  · rw [List.getElem?_append_left hj] at hv
    obtain ⟨h3, h4⟩ := h j v hv
    exact ⟨h3, fun hp => (h4 hp).weak fun w hw => hw.sub ⟨s, by simpa using List.perm_append_comm⟩⟩
  · rw [List.getElem?_append_right hj] at hv
    have : j = vs.length := by
      rcases Nat.eq_or_lt_of_le hj with e | e
      · exact e.symm
      · rw [List.getElem?_eq_none (by simp; omega)] at hv; cases hv
    subst this
    simp at hv
    subst hv
    rw [hk]
    exact ⟨h1, fun hp => (h2 hp).weak fun w hw => hw.sub ⟨sg, by simp⟩⟩
section
variable {P : Program} {n : Nat} {l : List (Nat × Value)} {L : List Seg} {d : Option Tmp} {ty : TypeId} {pos : String} {af : Array Edge} {g : Option (Nat × Bool)}
theorem ev_lookupn [Env] {T K E : TypeId} {x y : Operand} {b c : Nat} {kv : Kv} {k : Int} {z : Value} (hg : mget kv k = none) (hx : ev l x = some (.map (some b))) (hy : ev l y = some (.int .i64 k)) (hu : P.underlying T = some (.map K E)) (hK : P.underlying K = some (.int .i64))
    (hz : ∀ w, (zeroValue E).run P w = .ok z w) (hi : In L (so b (.map (ents kv) c))) :
    Ev P n ⟨d, .lookup T x y false, ty, pos, af, g⟩ l L z := by
  have := ev_lookup (n := n) (d := d) (ty := ty) (pos := pos) (af := af) (g := g) hx hy hu hK hz hi
  rw [hg] at this; exact this
end
theorem bytesV_get' {s : Bytes} {sp : List Value} {k : Nat} (h : k < s.length) : (bytesV s ++ sp)[k]? = some (.int .u8 (s[k]?.getD 0).toNat) := by
  rw [List.getElem?_append_left (by simpa using h)]; exact bytesV_get h
theorem take_succ_get {l : List Int} {k : Nat} {i : Int} (h : l[k]? = some i) : l.take (k + 1) = l.take k ++ [i] := by
  rw [List.take_add_one, h]; rfl
theorem take_not {l : List Int} (hn : l.Nodup) {k : Nat} {i : Int} (h : l[k]? = some i) : i ∉ l.take k := by
  intro hm
  obtain ⟨h1, h2⟩ := List.getElem?_eq_some_iff.1 h
  obtain ⟨j, hj, e⟩ := List.getElem_of_mem hm
  rw [List.getElem_take] at e
  have hjk : j < k := by simp at hj; omega
  have := List.pairwise_iff_getElem.1 hn j k (by omega) h1 hjk
  exact this (e.trans h2.symm)
end Go.Sl

namespace Go.Sl
set_option linter.unusedSimpArgs false
/-! the document's device, as it lies: each sector its bytes, what is pending, whether something is -/
structure RS where
  b : Bytes
  p : Bytes
  is : Bool
def rsV (r : RS) : List Value := bytesV r.b ++ bytesV r.p ++ [.bool r.is]
def RS.ok (r : RS) : Prop := r.b.length = 144 ∧ r.p.length = 144
theorem rsV_length {r : RS} (h : r.ok) : (rsV r).length = 289 := by simp [rsV, h.1, h.2]
def zrs : RS := ⟨zsec, zsec, false⟩
theorem zrs_ok : zrs.ok := ⟨by simp [zrs], by simp [zrs]⟩
def rflat (l : List RS) : List Value := (l.map rsV).flatten
structure RDev where
  l : List RS
  dead : Bool
  fuse : Int
structure RDev.ok (D : RDev) : Prop where
  n : D.l.length ≤ 512
  sec : ∀ r ∈ D.l, r.ok
  fuse : -1 ≤ D.fuse ∧ D.fuse ≤ 9223372036854775807
theorem rflat_length : ∀ {l : List RS}, (∀ r ∈ l, r.ok) → (rflat l).length = l.length * 289
  | [], _ => by simp [rflat]
  | r :: l, h => by
    have ih := rflat_length (l := l) (fun t ht => h t (by simp [ht]))
    have hr := rsV_length (h r (by simp))
    simp only [rflat, List.map_cons, List.flatten_cons, List.length_append, List.length_cons] at ih ⊢
    omega
theorem rflat_get : ∀ {l : List RS}, (∀ r ∈ l, r.ok) → ∀ {i j : Nat} {r : RS}, l[i]? = some r → j < 289 → (rflat l)[i * 289 + j]? = (rsV r)[j]?
  | [], _, i, j, r, h, _ => by simp at h
  | t :: l, h, i, j, r, hi, hj => by
    have ht := rsV_length (h t (by simp))
    cases i with
    | zero =>
      simp at hi; subst hi
      simp only [rflat, List.map_cons, List.flatten_cons, Nat.zero_mul, Nat.zero_add]
      rw [List.getElem?_append_left (by omega)]
    | succ i =>
      have ih := rflat_get (l := l) (fun u hu => h u (by simp [hu])) (i := i) (j := j) (r := r) (by simpa using hi) hj
      simp only [rflat, List.map_cons, List.flatten_cons] at ih ⊢
      rw [List.getElem?_append_right (by omega), ht, show (i + 1) * 289 + j - 289 = i * 289 + j by omega]
      exact ih
/-- What is stored inside one sector. -/
theorem rflat_splice : ∀ {l : List RS}, (∀ r ∈ l, r.ok) → ∀ {i o : Nat} {us : List Value} {r r' : RS}, l[i]? = some r → o + us.length ≤ 289 → (rsV r).take o ++ us ++ (rsV r).drop (o + us.length) = rsV r' →
    (rflat l).take (i * 289 + o) ++ us ++ (rflat l).drop (i * 289 + o + us.length) = rflat (l.set i r')
  | [], _, i, o, us, r, r', h, _, _ => by simp at h
  | t :: l, h, i, o, us, r, r', hi, ho, he => by
    have ht := rsV_length (h t (by simp))
    cases i with
    | zero =>
      simp at hi; subst hi
      simp only [rflat, List.map_cons, List.flatten_cons, Nat.zero_mul, Nat.zero_add, List.set_cons_zero]
      rw [List.take_append_of_le_length (by omega), List.drop_append_of_le_length (by omega), ← he]
      simp only [List.append_assoc]
    | succ i =>
      have ih := rflat_splice (l := l) (fun u hu => h u (by simp [hu])) (i := i) (o := o) (us := us) (r := r) (r' := r') (by simpa using hi) ho he
      simp only [rflat, List.map_cons, List.flatten_cons, List.set_cons_succ] at ih ⊢
      rw [← ih, List.take_append, List.drop_append, List.drop_eq_nil_of_le (by omega), List.take_of_length_le (by omega), ht]
      simp only [List.nil_append, List.append_assoc]
      rw [show (i + 1) * 289 + o - 289 = i * 289 + o by omega, show (i + 1) * 289 + o + us.length - 289 = i * 289 + o + us.length by omega]
theorem rs_p {r : RS} (h : r.ok) {s : Bytes} (hs : s.length = 144) : (rsV r).take 144 ++ bytesV s ++ (rsV r).drop (144 + (bytesV s).length) = rsV { r with p := s } := by
  obtain ⟨h1, h2⟩ := h
  have e : rsV r = bytesV r.b ++ (bytesV r.p ++ [.bool r.is]) := by simp [rsV]
  have e1 : (rsV r).take 144 = bytesV r.b := by rw [e, List.take_append_of_le_length (by simp [h1]), List.take_of_length_le (by simp [h1])]
  have e2 : (rsV r).drop 288 = [.bool r.is] := by
    rw [e, show 288 = 144 + 144 by omega, ← List.drop_drop, List.drop_left' (by simp [h1]), List.drop_left' (by simp [h2])]
  rw [e1, bytesV_length, hs, e2]
  simp [rsV]
theorem rs_is {r : RS} (h : r.ok) (v : Bool) : (rsV r).take 288 ++ [.bool v] ++ (rsV r).drop (288 + [Value.bool v].length) = rsV { r with is := v } := by
  obtain ⟨h1, h2⟩ := h
  unfold rsV
  rw [List.take_append_of_le_length (by simp [h1, h2]), List.take_of_length_le (by simp [h1, h2]), List.drop_eq_nil_of_le (by simp [h1, h2])]
  simp
/-! what is done to it -/
def RDev.act (D : RDev) : Int × RDev := if D.fuse = 0 then (30, { D with dead := true }) else (0, if 0 < D.fuse then { D with fuse := IntKind.i64.wrap (D.fuse - 1) } else D)
def RDev.upd (D : RDev) (i : Int) (f : RS → RS) : RDev := { D with l := D.l.modify i.toNat f }
def RDev.write (D : RDev) (i : Int) (bs : Bytes) : Int × RDev :=
  if D.dead = true then (30, D) else if i < 0 ∨ (D.l.length : Int) ≤ i then (2, D) else if (144 : Int) < bs.length then (3, D) else if D.act.1 ≠ 0 then D.act else
  (0, D.act.2.upd i fun r => { r with p := pad bs, is := true })
def RS.settle (r : RS) : RS := if r.is then ⟨r.p, zsec, false⟩ else r
def RDev.barrier (D : RDev) : Int × RDev := if D.dead = true then (30, D) else if D.act.1 ≠ 0 then D.act else (0, { D.act.2 with l := D.act.2.l.map RS.settle })
def RS.sec (r : RS) : Bytes := if r.is then r.p else r.b
def RDev.pendF : List RS → Nat → List Int
  | [], _ => []
  | r :: l, k => if r.is then (k : Int) :: pendF l (k + 1) else pendF l (k + 1)
def RDev.pending (D : RDev) : List Int := RDev.pendF D.l 0
def RDev.crashF : List RS → Keeps → List RS
  | [], _ => []
  | r :: l, ks => if r.is then (match ks with
    | [] => ⟨r.b, zsec, false⟩ :: crashF l []
    | x :: ks => ⟨keep1 r.p x r.b, zsec, false⟩ :: crashF l ks) else r :: crashF l ks
def RDev.crash (D : RDev) (ks : Keeps) : RDev := { l := RDev.crashF D.l ks, dead := false, fuse := -1 }
def RDev.lose (D : RDev) : RDev := { l := List.replicate D.l.length zrs, dead := false, fuse := -1 }
def RDev.setFuse (D : RDev) (n : Int) : RDev := { D with fuse := if n < 0 then -1 else n }
def RDev.new (n : Nat) : RDev := ⟨List.replicate n zrs, false, -1⟩
/-- So many bytes copied into a row of zeros. -/
def padk (bs : Bytes) (k : Nat) : Bytes := bs.take k ++ List.replicate (144 - k) 0
theorem padk_zero (bs : Bytes) : padk bs 0 = zsec := by simp [padk, zsec]
theorem padk_all (bs : Bytes) : padk bs bs.length = pad bs := by simp [padk, pad]
theorem padk_set {bs : Bytes} {k : Nat} (hk : k < bs.length) (hb : bs.length ≤ 144) : (bytesV (padk bs k)).set k (.int .u8 (bs[k]?.getD 0).toNat) = bytesV (padk bs (k + 1)) := by
  apply List.ext_getElem?
  intro j
  unfold padk bytesV
  rw [List.getElem?_set]
  by_cases e : k = j
  · subst e
    have h1 : k < bs.length := hk
    rw [if_pos rfl, if_pos (by simp; omega)]
    rw [List.getElem?_map, List.getElem?_append_left (by simp; omega), List.getElem?_take, if_pos (by omega)]
    simp [h1]
  · rw [if_neg e, List.getElem?_map, List.getElem?_map]
    congr 1
    rcases Nat.lt_or_ge j k with h | h
    · rw [List.getElem?_append_left (by simp; omega), List.getElem?_append_left (by simp; omega), List.getElem?_take, if_pos h, List.getElem?_take, if_pos (by omega)]
    · rw [List.getElem?_append_right (by simp; omega), List.getElem?_append_right (by simp; omega), List.getElem?_replicate, List.getElem?_replicate]
      simp only [List.length_take]
      have h1 : min k bs.length = k := by omega
      have h2 : min (k + 1) bs.length = k + 1 := by omega
      rw [h1, h2]
      by_cases h3 : j < 144
      · rw [if_pos (by omega), if_pos (by omega)]
      · rw [if_neg (by omega), if_neg (by omega)]
@[simp] theorem ract_l {D : RDev} : D.act.2.l = D.l := by unfold RDev.act; split <;> (try split) <;> rfl
theorem upd_flat {l : List RS} (h : ∀ r ∈ l, r.ok) {i : Nat} {r : RS} (hr : l[i]? = some r) (f : RS → RS) : l.modify i f = l.set i (f r) := by
  obtain ⟨h1, h2⟩ := List.getElem?_eq_some_iff.1 hr
  apply List.ext_getElem?
  intro j
  rw [List.getElem?_modify, List.getElem?_set]
  by_cases e : i = j
  · subst e; simp [h1, h2]
  · simp [e]
theorem rdV_of_rdB [Env] {R : List Seg} {v : Value} {bs : Bytes} {w : World} (h : RdB R v bs) (hh : Has w R) : RdV R v bs.length (bytesV bs) := by
  rcases h with ⟨rfl, rfl⟩ | ⟨a, c, rfl, h2⟩
  · exact .inl ⟨rfl, rfl, rfl⟩
  · have hs : bs.length ≠ 0 → a.spot = none := fun h0 => by
      have := h2 w hh 0 (by omega)
      cases hq : a.spot with
      | none => rfl
      | some s =>
        exfalso
        have e : a.add 0 = a := by simp [Addr.add]
        rw [e] at this
        unfold World.cell? at this
        split at this
        · rw [hq] at this; simp at this
        · cases this
    refine .inr ⟨a, c, rfl, hs, fun w' hw' j hj => ?_⟩
    have hj' : j < bs.length := by simpa using hj
    have := h2 w' hw' j hj'
    have hsp := hs (by omega)
    rw [show a.add j = ⟨a.block, a.off + j, none⟩ by cases a; simp at hsp; subst hsp; exact add_lit _ _ _] at this
    rw [this]
    simp [bytesV]
theorem set_ok {l : List RS} (h : ∀ r ∈ l, r.ok) {i : Nat} {r : RS} (hr : r.ok) : ∀ t ∈ l.set i r, t.ok := by
  intro t ht
  rcases List.mem_or_eq_of_mem_set ht with h1 | rfl
  · exact h t h1
  · exact hr
theorem list_set_eq {vs : List Value} {o : Nat} {v : Value} (h : o < vs.length) : vs.set o v = vs.take o ++ [v] ++ vs.drop (o + [v].length) := by
  rw [List.set_eq_take_append_cons_drop, if_pos h]; simp
theorem rs_store {l : List RS} (h : ∀ r ∈ l, r.ok) {i : Int} {r : RS} {s : Bytes} (hr : l[i.toNat]? = some r) (hro : r.ok) (hs : s.length = 144) {o : Nat} (ho : o = i.toNat * 289 + 288) :
    (rflat (l.set i.toNat { r with p := s })).set o (.bool true) = rflat (l.set i.toNat { r with p := s, is := true }) := by
  subst ho
  have hl := (List.getElem?_eq_some_iff.1 hr).1
  have hro' : RS.ok { r with p := s } := ⟨hro.1, hs⟩
  have h1 := rflat_splice (o := 288) (us := [.bool true]) (set_ok h hro') (r := { r with p := s }) (List.getElem?_set_self hl) (by simp) (rs_is hro' true)
  rw [List.set_set] at h1
  rw [list_set_eq (by rw [rflat_length (set_ok h hro')]; simp; omega)]
  exact h1
theorem rflat_slice {l : List RS} (h : ∀ r ∈ l, r.ok) {i : Nat} {r : RS} (hr : l[i]? = some r) {o m : Nat} (ho : o + m ≤ 289) : ((rflat l).drop (i * 289 + o)).take m = ((rsV r).drop o).take m := by
  apply List.ext_getElem?
  intro j
  rw [List.getElem?_take, List.getElem?_take]
  split
  · rw [List.getElem?_drop, List.getElem?_drop, Nat.add_assoc, rflat_get h hr (by omega)]
  · rfl
theorem rsV_b {r : RS} (h : r.ok) : ((rsV r).drop 0).take 144 = bytesV r.b := by
  unfold rsV
  rw [List.drop_zero, List.append_assoc, List.take_append_of_le_length (by simp [h.1]), List.take_of_length_le (by simp [h.1])]
theorem rsV_p {r : RS} (h : r.ok) : ((rsV r).drop 144).take 144 = bytesV r.p := by
  unfold rsV
  rw [List.append_assoc, List.drop_left' (by simp [h.1]), List.take_append_of_le_length (by simp [h.2]), List.take_of_length_le (by simp [h.2])]
theorem rsV_is {r : RS} (h : r.ok) : (rsV r)[288]? = some (.bool r.is) := by
  unfold rsV
  rw [List.getElem?_append_right (by simp [h.1, h.2])]
  simp [h.1, h.2]
theorem settle_ok {r : RS} (h : r.ok) : r.settle.ok := by
  unfold RS.settle
  split
  · exact ⟨h.2, by simp⟩
  · exact h
/-- So many sectors settled. -/
def stl (l : List RS) (k : Nat) : List RS := (l.take k).map RS.settle ++ l.drop k
theorem stl_zero (l : List RS) : stl l 0 = l := by simp [stl]
theorem stl_all (l : List RS) : stl l l.length = l.map RS.settle := by simp [stl]
theorem stl_len (l : List RS) (k : Nat) : (stl l k).length = l.length := by simp [stl]; omega
theorem stl_ok {l : List RS} (h : ∀ r ∈ l, r.ok) (k : Nat) : ∀ r ∈ stl l k, r.ok := by
  intro r hr
  rcases List.mem_append.1 hr with hr | hr
  · obtain ⟨t, ht, rfl⟩ := List.mem_map.1 hr
    exact settle_ok (h t (List.mem_of_mem_take ht))
  · exact h r (List.mem_of_mem_drop hr)
theorem stl_get {l : List RS} {k : Nat} {r : RS} (h : l[k]? = some r) : (stl l k)[k]? = some r := by
  have hl := (List.getElem?_eq_some_iff.1 h).1
  unfold stl
  rw [List.getElem?_append_right (by simp; omega)]
  simp only [List.length_map, List.length_take, List.getElem?_drop]
  rw [show min k l.length = k by omega, show k + (k - k) = k by omega]
  exact h
theorem stl_succ {l : List RS} {k : Nat} {r : RS} (h : l[k]? = some r) : (stl l k).set k r.settle = stl l (k + 1) := by
  have hl := (List.getElem?_eq_some_iff.1 h).1
  apply List.ext_getElem?
  intro j
  rw [List.getElem?_set]
  unfold stl
  by_cases e : k = j
  · subst e
    rw [if_pos rfl, if_pos (by simp; omega), List.getElem?_append_left (by simp; omega), List.getElem?_map, List.getElem?_take, if_pos (by omega), h]
    rfl
  · rw [if_neg e]
    rcases Nat.lt_or_ge j k with hj | hj
    · rw [List.getElem?_append_left (by simp; omega), List.getElem?_append_left (by simp; omega), List.getElem?_map, List.getElem?_map, List.getElem?_take, List.getElem?_take, if_pos hj, if_pos (by omega)]
    · rw [List.getElem?_append_right (by simp; omega), List.getElem?_append_right (by simp; omega)]
      simp only [List.length_map, List.length_take, List.getElem?_drop]
      congr 1
      omega
theorem rs_store_all {l : List RS} (h : ∀ r ∈ l, r.ok) {i : Nat} {r r' : RS} (hr : l[i]? = some r) (hr' : r'.ok) :
    (rflat l).take (i * 289) ++ rsV r' ++ (rflat l).drop (i * 289 + 289) = rflat (l.set i r') := by
  have hro := h r (List.mem_of_getElem? hr)
  have := rflat_splice (o := 0) (us := rsV r') h hr (by rw [rsV_length hr']; omega) (r' := r') (by rw [rsV_length hr', Nat.zero_add, List.take_zero, List.nil_append, List.drop_eq_nil_of_le (by rw [rsV_length hro]; omega), List.append_nil])
  rw [rsV_length hr'] at this
  simpa using this
theorem rsV_one (r : RS) : ∀ u ∈ rsV r, u.oneCell' = true := by
  intro u hu
  unfold rsV at hu
  simp only [List.mem_append, List.mem_cons, List.not_mem_nil, or_false] at hu
  rcases hu with (hu | hu) | rfl
  · exact bytesV_one _ u hu
  · exact bytesV_one _ u hu
  · rfl
theorem build_b {s : Bytes} (hs : s.length = 144) : splice (rsV zrs) (bytesV s) 0 = rsV ⟨s, zsec, false⟩ := by
  unfold splice
  have e : rsV zrs = bytesV zsec ++ (bytesV zsec ++ [.bool false]) := by simp [rsV, zrs]
  rw [List.take_zero, List.nil_append, bytesV_length, hs, e, Nat.zero_add, List.drop_left' (by simp)]
  simp [rsV]
/-- What is pending of the first so many sectors. -/
def pendTo (l : List RS) (k : Nat) : List Int := RDev.pendF (l.take k) 0
theorem pendF_append : ∀ (a b : List RS) (k : Nat), RDev.pendF (a ++ b) k = RDev.pendF a k ++ RDev.pendF b (k + a.length)
  | [], b, k => by simp [RDev.pendF]
  | r :: a, b, k => by
    simp only [List.cons_append, RDev.pendF, List.length_cons, pendF_append a b (k + 1)]
    rw [show k + 1 + a.length = k + (a.length + 1) by omega]
    split <;> simp
theorem pendTo_all (D : RDev) : pendTo D.l D.l.length = D.pending := by simp [pendTo, RDev.pending]
theorem pendTo_succ {l : List RS} {k : Nat} {r : RS} (h : l[k]? = some r) : pendTo l (k + 1) = pendTo l k ++ (if r.is then [(k : Int)] else []) := by
  have hl := (List.getElem?_eq_some_iff.1 h).1
  unfold pendTo
  rw [List.take_add_one, h, Option.toList_some, pendF_append]
  congr 1
  simp only [RDev.pendF, List.length_take]
  rw [show 0 + min k l.length = k by omega]
theorem pendTo_is {l : List RS} {k : Nat} {r : RS} (h : l[k]? = some r) (hi : r.is = true) : pendTo l (k + 1) = pendTo l k ++ [(k : Int)] := by rw [pendTo_succ h, if_pos hi]
theorem pendTo_not {l : List RS} {k : Nat} {r : RS} (h : l[k]? = some r) (hi : r.is = false) : pendTo l (k + 1) = pendTo l k := by rw [pendTo_succ h, if_neg (by simp [hi])]; simp
theorem pendF_le : ∀ (l : List RS) (k : Nat), (RDev.pendF l k).length ≤ l.length
  | [], _ => by simp [RDev.pendF]
  | r :: l, k => by
    have := pendF_le l (k + 1)
    simp only [RDev.pendF]
    split <;> simp <;> omega
theorem pendTo_le (l : List RS) (k : Nat) : (pendTo l k).length ≤ l.length := Nat.le_trans (pendF_le _ _) (by simp; omega)
def RDev.has (D : RDev) (i : Int) : Int := if D.dead = true then 30 else if i < 0 ∨ (D.l.length : Int) ≤ i then 2 else 0
def RDev.sec (D : RDev) (i : Int) : Bytes := ((D.l[i.toNat]?).map RS.sec).getD zsec
theorem rsec_len {r : RS} (h : r.ok) : r.sec.length = 144 := by unfold RS.sec; split; exact h.2; exact h.1
theorem rs_byte_p {r : RS} (h : r.ok) (hi : r.is = true) {k : Nat} (hk : k < 144) : (rsV r)[144 + k]? = some (.int .u8 (r.sec[k]?.getD 0).toNat) := by
  unfold rsV RS.sec
  rw [if_pos hi, List.append_assoc, List.getElem?_append_right (by simp [h.1]), bytesV_length, h.1, show 144 + k - 144 = k by omega, List.getElem?_append_left (by simp [h.2, hk]), bytesV_get (by rw [h.2]; exact hk)]
theorem rs_byte_b {r : RS} (h : r.ok) (hi : r.is = false) {k : Nat} (hk : k < 144) : (rsV r)[k]? = some (.int .u8 (r.sec[k]?.getD 0).toNat) := by
  unfold rsV RS.sec
  rw [if_neg (by simp [hi]), List.append_assoc, List.getElem?_append_left (by simp [h.1, hk]), bytesV_get (by rw [h.1]; exact hk)]
theorem take_byte {s : Bytes} {k : Nat} (hk : k < s.length) : bytesV (s.take k) ++ [.int .u8 (s[k]?.getD 0).toNat] = bytesV (s.take (k + 1)) := by
  rw [List.take_add_one, bytesV_append, List.getElem?_eq_getElem hk]
  rfl
end Go.Sl
