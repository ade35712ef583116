/- A part of the proof: contracts and plain lemmas, each without conditions beyond those that it names. -/
import Derived.Test.YtnedokioglfipaaSlG
set_option linter.unusedVariables false
set_option linter.unusedSimpArgs false
set_option linter.constructorNameAsVariable false
namespace Go.Sl
set_option linter.unusedSimpArgs false

/-! ### maps with int keys: (key, value, born), as they lie -/
abbrev Kv := List (Int × Value × Nat)
def ent (x : Int × Value × Nat) : MapEntry := ⟨.int .i64 x.1, x.2.1, x.2.2⟩
def ents (kv : Kv) : Array MapEntry := (kv.map ent).toArray
def mget (kv : Kv) (k : Int) : Option Value := (kv.find? (fun x => decide (x.1 = k))).map (·.2.1)
def mset (kv : Kv) (k : Int) (v : Value) : Kv := kv.map fun x => if x.1 = k then (k, v, x.2.2) else x
def mput (kv : Kv) (c : Nat) (k : Int) (v : Value) : Kv := if kv.any (fun x => decide (x.1 = k)) then mset kv k v else kv ++ [(k, v, c)]
def mclk (kv : Kv) (c : Nat) (k : Int) : Nat := if kv.any (fun x => decide (x.1 = k)) then c else c + 1
def mdel (kv : Kv) (k : Int) : Kv := kv.eraseP fun x => decide (x.1 = k)
/-- Each key once. -/
def uniq (kv : Kv) : Prop := (kv.map (·.1)).Nodup

theorem findNow_ents (k : Int) : ∀ (kv : Kv) (i : Nat), Instr.findNow (.int .i64) (.int .i64 k) (kv.map ent) i =
    some ((kv.findIdx? (fun x => decide (x.1 = k))).map fun j => (i + j, ((kv[j]?).map (·.2.1)).getD undef))
  | [], i => by simp [Instr.findNow]
  | x :: kv, i => by
    have ih := findNow_ents k kv (i + 1)
    simp only [List.map_cons, Instr.findNow, ent, Instr.sameNow, if_true]
    by_cases h : x.1 = k
    · simp [List.findIdx?_cons, h]
    · have hb : (k == x.1) = false := by simpa using fun e => h e.symm
      simp only [hb]
      have h' : decide (x.1 = k) = false := by simpa using h
      rw [ih]
      simp only [List.findIdx?_cons, h']
      cases kv.findIdx? (fun x => decide (x.1 = k)) with
      | none => simp
      | some j => simp; omega

theorem run_findKey {P : Program} {K : TypeId} (hK : P.underlying K = some (.int .i64)) (k : Int) (kv : Kv) (w : World) :
    (Instr.findKey K (.int .i64 k) (ents kv).toList).run P w = .ok ((kv.findIdx? (fun x => decide (x.1 = k))).map fun j => (j, ((kv[j]?).map (·.2.1)).getD undef)) w := by
  have := findNow_ents k kv 0
  simp only [Nat.zero_add] at this
  simp [Instr.findKey, run_underlying hK, ents, this]

theorem run_checkKey {P : Program} {K : TypeId} (hK : P.underlying K = some (.int .i64)) (e : Bool) (d : Nat) (k : Int) (w : World) :
    (Instr.checkKey e (d + 1) K (.int .i64 k)).run P w = .ok () w := by
  simp [Instr.checkKey, run_underlying hK]

theorem find_idx (kv : Kv) (k : Int) : (kv.findIdx? (fun x => decide (x.1 = k))).map (fun j => ((kv[j]?).map (·.2.1)).getD undef) = mget kv k := by
  unfold mget
  induction kv with
  | nil => simp
  | cons x kv ih =>
    by_cases h : x.1 = k
    · simp [List.findIdx?_cons, h]
    · have h' : decide (x.1 = k) = false := by simpa using h
      simp only [List.findIdx?_cons, h', List.find?_cons]
      rw [← ih]
      cases kv.findIdx? (fun x => decide (x.1 = k)) <;> simp

section
variable {P : Program} {n : Nat} {l : List (Nat × Value)} {L : List Seg} {d : Option Tmp} {ty : TypeId} {pos : String} {af : Array Edge} {g : Option (Nat × Bool)}

theorem run_getObj {w : World} {b : Nat} {es : Array MapEntry} {c : Nat} (h : w.heap[b]? = some (.map es c)) : (getObj b).run P w = .ok (.map es c) w := by
  simp [getObj, Sem.run, h]
theorem run_setObj {w : World} {b : Nat} {es : Array MapEntry} {c : Nat} {o : Obj} (h : w.heap[b]? = some (.map es c)) : (setObj b o).run P w = .ok () (setB w b o) := by
  simp [setObj, Sem.run, h, setB]

theorem run_lookup {w : World} {T K E : TypeId} {b c : Nat} {kv : Kv} {k : Int} {z : Value} (ok : Bool) (hu : P.underlying T = some (.map K E)) (hK : P.underlying K = some (.int .i64)) (hz : (zeroValue E).run P w = .ok z w)
    (hb : w.heap[b]? = some (.map (ents kv) c)) :
    (Instr.lookup T (.map (some b)) (.int .i64 k) ok).run P w = .ok (if ok then .tuple #[(mget kv k).getD z, .bool (mget kv k).isSome] else (mget kv k).getD z) w := by
  rw [← find_idx]
  have hf := run_findKey hK k kv w
  simp only [Instr.lookup, Sem.run_bind, run_underlying hu, Result.andThen_ok, run_getObj hb, Sem.run_pure, run_checkKey hK, hf]
  cases kv.findIdx? (fun x => decide (x.1 = k)) with
  | none => simp [hz]
  | some j => simp

theorem ev_lookup [Env] {T K E : TypeId} {x y : Operand} {b c : Nat} {kv : Kv} {k : Int} {z : Value} (hx : ev l x = some (.map (some b))) (hy : ev l y = some (.int .i64 k)) (hu : P.underlying T = some (.map K E)) (hK : P.underlying K = some (.int .i64))
    (hz : ∀ w, (zeroValue E).run P w = .ok z w) (hi : In L (so b (.map (ents kv) c))) :
    Ev P n ⟨d, .lookup T x y false, ty, pos, af, g⟩ l L ((mget kv k).getD z) :=
  fun a w hf hh => by simp [execOp, hf.ev hx, hf.ev hy, run_lookup false hu hK (hz w) (hh.obj hi)]
theorem ev_lookup2 [Env] {T K E : TypeId} {x y : Operand} {b c : Nat} {kv : Kv} {k : Int} {z : Value} (hx : ev l x = some (.map (some b))) (hy : ev l y = some (.int .i64 k)) (hu : P.underlying T = some (.map K E)) (hK : P.underlying K = some (.int .i64))
    (hz : ∀ w, (zeroValue E).run P w = .ok z w) (hi : In L (so b (.map (ents kv) c))) :
    Ev P n ⟨d, .lookup T x y true, ty, pos, af, g⟩ l L (.tuple [(mget kv k).getD z, .bool (mget kv k).isSome].toArray) :=
  fun a w hf hh => by simp [execOp, hf.ev hx, hf.ev hy, run_lookup true hu hK (hz w) (hh.obj hi)]

theorem ac_makeMap [Env] {T : TypeId} : Ac P n ⟨d, .makeMap T none, ty, pos, af, g⟩ l L (fun v L' => ∃ b, v = .map (some b) ∧ L' = so b (.map (ents []) 0) :: L) := by
  intro a w hf hh
  refine ⟨_, _, _, .inl (by simp [execOp, Instr.makeMap]; exact ⟨rfl, rfl⟩), ⟨_, rfl, rfl⟩, ?_⟩
  exact hh.alloc (.map #[] 0)

theorem sameBits_int (m : Nat) (k : IntKind) (x : Int) : Instr.sameBits m (.int k x) (.int k x) = true := by
  cases m <;> simp [Instr.sameBits]

theorem findIdx_any (kv : Kv) (k : Int) : (kv.findIdx? (fun x => decide (x.1 = k))).isSome = kv.any (fun x => decide (x.1 = k)) := by
  induction kv with
  | nil => rfl
  | cons x kv ih =>
    by_cases h : x.1 = k
    · simp [List.findIdx?_cons, h]
    · have h' : decide (x.1 = k) = false := by simpa using h
      simp only [List.findIdx?_cons, h', List.any_cons, Bool.false_or, ← ih]
      cases kv.findIdx? (fun x => decide (x.1 = k)) <;> simp

theorem modify_mset (kv : Kv) (k : Int) (v : Value) (hu : uniq kv) : ∀ j, kv.findIdx? (fun x => decide (x.1 = k)) = some j →
    (kv.map ent).modify j (fun e => { e with key := .int .i64 k, val := v }) = (mset kv k v).map ent := by
  unfold mset
  induction kv with
  | nil => intro j h; simp at h
  | cons x kv ih =>
    intro j h
    have hu' : uniq kv := (List.nodup_cons.1 hu).2
    by_cases hk : x.1 = k
    · simp [List.findIdx?_cons, hk] at h
      subst h
      have hno : ∀ y ∈ kv, y.1 ≠ k := fun y hy e => (List.nodup_cons.1 hu).1 (List.mem_map.2 ⟨y, hy, e.trans hk.symm⟩)
      simp only [List.map_cons, List.modify_zero_cons, if_pos hk, List.map_map]
      congr 1
      apply List.map_congr_left
      intro y hy
      simp [hno y hy]
    · have h' : decide (x.1 = k) = false := by simpa using hk
      simp [List.findIdx?_cons, h'] at h
      obtain ⟨i, hi, rfl⟩ := h
      simp only [List.map_cons, List.modify_succ_cons, if_neg hk]
      rw [ih hu' i (by simpa using hi)]

theorem ac_mapUpdate [Env] {T K E : TypeId} {x y z : Operand} {b c : Nat} {kv : Kv} {k : Int} {v : Value} {L' : List Seg} (hx : ev l x = some (.map (some b))) (hy : ev l y = some (.int .i64 k)) (hz : ev l z = some v)
    (hu : P.underlying T = some (.map K E)) (hK : P.underlying K = some (.int .i64)) (hq : uniq kv) (r : Rp L (so b (.map (ents kv) c)) (so b (.map (ents (mput kv c k v)) (mclk kv c k))) L') :
    Ac P n ⟨d, .mapUpdate T x y z, ty, pos, af, g⟩ l L (KTo L') := by
  intro a w hf hh
  have hin := r.pk.choose_spec.1.in
  have hb := hh.obj hin
  have hfk := run_findKey hK k kv w
  refine ⟨undef, setB w b (.map (ents (mput kv c k v)) (mclk kv c k)), L', .inr ⟨?_, rfl⟩, ⟨rfl, rfl⟩, hh.setB r⟩
  simp only [execOp, hf.ev hx, hf.ev hy, hf.ev hz, Instr.mapUpdate, Sem.run_bind, run_underlying hu, Result.andThen_ok, run_getObj hb, run_checkKey hK, hfk, Sem.run_pure]
  have ha := findIdx_any kv k
  cases hi : kv.findIdx? (fun x => decide (x.1 = k)) with
  | none =>
    rw [hi] at ha
    have ha' : kv.any (fun x => decide (x.1 = k)) = false := by simpa using ha.symm
    simp only [Option.map_none, run_setObj hb, Result.andThen_ok, mput, mclk, ha']
    simp [ents, ent]
  | some j =>
    rw [hi] at ha
    have ha' : kv.any (fun x => decide (x.1 = k)) = true := by simpa using ha.symm
    have hjk : ∃ hj : j < kv.length, kv[j].1 = k := by
      have := List.findIdx?_eq_some_iff_getElem.1 hi
      obtain ⟨hj, h1, _⟩ := this
      exact ⟨hj, by simpa using h1⟩
    obtain ⟨hj, hjk⟩ := hjk
    have hkey : (((ents kv)[j]?).map (·.key)).getD (Value.int .i64 k) = .int .i64 k := by
      simp [ents, hj, ent, hjk]
    have hmod : (ents kv).modify j (fun e => { e with key := .int .i64 k, val := v }) = ents (mset kv k v) := by
      unfold ents
      rw [← modify_mset kv k v hq j hi]
      simp
    simp only [Option.map_some, hkey, Instr.keyThatStays, sameBits_int, if_true, pure_bind, hmod, Result.andThen_ok, run_setObj hb, mput, mclk, ha']

theorem ac_clearM [Env] {T K E : TypeId} {x : Operand} {b c : Nat} {es : Array MapEntry} {L' : List Seg} (hx : ev l x = some (.map (some b))) (hu : P.underlying T = some (.map K E)) (r : Rp L (so b (.map es c)) (so b (.map (ents []) c)) L') :
    Ac P n ⟨d, .call { callee := .builtin .clear, args := #[x], argTypes := #[T] }, ty, pos, af, g⟩ l L (fun v L'' => v = .tuple #[] ∧ L'' = L') := by
  intro a w hf hh
  have hb := hh.obj r.pk.choose_spec.1.in
  refine ⟨.tuple #[], setB w b (.map #[] c), L', .inl ?_, ⟨rfl, rfl⟩, hh.setB r⟩
  simp [execOp, resolve, invoke, builtin, hf.ev hx, Builtin.clear_, run_underlying hu, run_getObj hb, run_setObj hb]

theorem ac_delete [Env] {T K E : TypeId} {x y : Operand} {b c : Nat} {kv : Kv} {k : Int} {ts : Array TypeId} {L' : List Seg} (hx : ev l x = some (.map (some b))) (hy : ev l y = some (.int .i64 k)) (hu : P.underlying T = some (.map K E)) (hK : P.underlying K = some (.int .i64))
    (hts : ts[0]? = some T) (r : Rp L (so b (.map (ents kv) c)) (so b (.map (ents (mdel kv k)) c)) L') :
    Ac P n ⟨d, .call { callee := .builtin .delete, args := #[x, y], argTypes := ts }, ty, pos, af, g⟩ l L (fun v L'' => v = .tuple #[] ∧ L'' = L') := by
  intro a w hf hh
  have hb := hh.obj r.pk.choose_spec.1.in
  have hfk := run_findKey hK k kv w
  refine ⟨.tuple #[], setB w b (.map (ents (mdel kv k)) c), L', .inl ?_, ⟨rfl, rfl⟩, hh.setB r⟩
  have hdel : ∀ j, kv.findIdx? (fun x => decide (x.1 = k)) = some j → (ents kv).eraseIdxIfInBounds j = ents (mdel kv k) := by
    intro j hj
    have hj' := (List.findIdx?_eq_some_iff_getElem.1 hj)
    obtain ⟨hlt, _, _⟩ := hj'
    have e1 : kv.eraseIdx j = mdel kv k := by
      unfold mdel
      rw [List.eraseP_eq_eraseIdx, hj]
    unfold ents
    rw [← e1]
    have : ∀ (q : Kv) (i : Nat), (q.eraseIdx i).map ent = (q.map ent).eraseIdx i := by
      intro q
      induction q with
      | nil => intro i; rfl
      | cons a q ih => intro i; cases i <;> simp [ih]
    rw [this]
    simp [Array.eraseIdxIfInBounds, hlt]
  have hnone : kv.findIdx? (fun x => decide (x.1 = k)) = none → mdel kv k = kv := by
    intro h
    unfold mdel
    rw [List.eraseP_eq_eraseIdx, h]
  cases hi : kv.findIdx? (fun x => decide (x.1 = k)) with
  | none =>
    rw [hi] at hfk
    simp [execOp, resolve, invoke, builtin, hf.ev hx, hf.ev hy, Builtin.delete_, hts, run_underlying hu, run_getObj hb, run_checkKey hK, hfk, run_setObj hb, hnone hi]
  | some j =>
    rw [hi] at hfk
    simp [execOp, resolve, invoke, builtin, hf.ev hx, hf.ev hy, Builtin.delete_, hts, run_underlying hu, run_getObj hb, run_checkKey hK, hfk, run_setObj hb, hdel j hi]
end
end Go.Sl
