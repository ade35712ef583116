/- A part of the proof: contracts and plain lemmas, each without conditions beyond those that it names. -/
import Derived.Test.YtnedokioglfipaaSlN
import Derived.IntWalk
import Derived.WalkSpells
set_option linter.unusedVariables false
set_option linter.unusedSimpArgs false
set_option linter.constructorNameAsVariable false
namespace Go.Sl
set_option linter.unusedSimpArgs false
section
variable {P : Program} {n : Nat} {Q : Exit → Act → World → Prop} {l : List (Nat × Value)} {L : List Seg} {d : Option Tmp} {ty : TypeId} {pos : String} {af : Array Edge} {g : Option (Nat × Bool)}

/-- So many copies, one behind the other. -/
def reps (m : Nat) (zs : List Value) : List Value := (List.replicate m zs).flatten
@[simp] theorem reps_length (m : Nat) (zs : List Value) : (reps m zs).length = m * zs.length := by
  induction m with
  | zero => simp [reps]
  | succ m ih => simp only [reps, List.replicate_succ, List.flatten_cons, List.length_append] at ih ⊢; rw [ih, Nat.add_mul]; omega
theorem reps_get (zs : List Value) (h : 0 < zs.length) : ∀ (m i : Nat), i < m * zs.length → (reps m zs)[i]? = zs[i % zs.length]?
  | 0, i, hi => by simp at hi
  | m + 1, i, hi => by
    have e : reps (m + 1) zs = zs ++ reps m zs := by simp [reps, List.replicate_succ]
    rw [e, List.getElem?_append]
    split
    · rename_i hlt; rw [Nat.mod_eq_of_lt hlt]
    · rename_i hge
      have hge' : zs.length ≤ i := by omega
      rw [reps_get zs h m (i - zs.length) (by rw [Nat.add_mul] at hi; omega)]
      rw [Nat.mod_eq_sub_mod hge']
theorem made_cells (m : Nat) (zs : List Value) (h : 0 < zs.length) : (Array.range (m * zs.length)).map (fun i => zs.toArray[i % zs.toArray.size]!) = (reps m zs).toArray := by
  apply Array.ext_getElem?
  intro i
  by_cases hi : i < m * zs.length
  · have h2 : i % zs.length < zs.length := Nat.mod_lt _ h
    have h3 := reps_get zs h m i hi
    rw [List.getElem?_eq_getElem h2] at h3
    obtain ⟨_, h4⟩ := List.getElem?_eq_some_iff.1 h3
    simp [hi, h2, h4]
  · have : (reps m zs).toArray[i]? = none := by simp; omega
    rw [this]
    simp; omega

theorem wr {x : Int} (h0 : -9223372036854775808 ≤ x) (h1 : x ≤ 9223372036854775807) : IntKind.i64.wrap x = x := IntWalk.i64_in x ⟨h0, h1⟩
theorem ac_make [Env] {t e : TypeId} {x z : Operand} {m k : Nat} {i : TypeInfo} {zv : Value} {zs : List Value} (hx : ev l x = some (.int .i64 m)) (hz : ev l z = some (.int .i64 m)) (hu : P.underlying t = some (.slice e)) (hi : ∀ w, (typeInfo e).run P w = .ok i w)
    (hsz : ∀ w, (sizeOf e).run P w = .ok k w) (hzv : ∀ w, (zeroValue e).run P w = .ok zv w) (hzs : zv.cells = zs.toArray) (hk : k = zs.length) (hpos : 0 < k) (hm : m < 2 ^ 40) (hbig : i.bytes * m ≤ 2 ^ 48) :
    Ac P n ⟨d, .makeSlice t x z, ty, pos, af, g⟩ l L (fun v L' => ∃ b, v = .slice (some ⟨b, 0, none⟩) m m ∧ L' = sc b (reps m zs) e :: L) := by
  intro a w hf hh
  subst hk
  have hw : IntKind.i64.wrap (m : Int) = (m : Int) := wr (by omega) (by omega)
  have hmc := made_cells m zs hpos
  have hb2 : ¬ ((i.bytes : Int) * (m : Int) > 2 ^ 48) := by
    have : ((i.bytes * m : Nat) : Int) ≤ ((2 ^ 48 : Nat) : Int) := Int.ofNat_le.2 hbig
    simpa using this
  have hm0 : ¬ ((m : Int) < 0) := by omega
  refine ⟨_, _, _, .inl ?_, ⟨w.heap.size, rfl, rfl⟩, hh.alloc (.cells (reps m zs).toArray e)⟩
  have hbb : ¬ (281474976710656 < (i.bytes : Int) * (m : Int)) := by omega
  by_cases hmz : m * zs.length = 0
  · have hr : reps m zs = [] := List.eq_nil_of_length_eq_zero (by simpa using hmz)
    have : Array.range 0 = #[] := Array.eq_empty_of_size_eq_zero (by simp)
    simp only [execOp, Instr.makeSlice, hf.ev hx, hf.ev hz, asInt, asIntOf, Sem.run_bind, run_underlying hu, Result.andThen_ok, hi, hsz, pure_bind, Sem.run_pure, hw, newRow, hr]
    simp [hm0, hbb, hsz, hmz, this]
  · simp only [execOp, Instr.makeSlice, hf.ev hx, hf.ev hz, asInt, asIntOf, Sem.run_bind, run_underlying hu, Result.andThen_ok, hi, hsz, pure_bind, Sem.run_pure, hw, newRow]
    have hmc' := hmc
    simp only [List.size_toArray] at hmc'
    rw [← hmc']
    have hmz2 : ¬ (m = 0 ∨ zs = []) := by
      rintro (h | h)
      · exact hmz (by simp [h])
      · exact hmz (by simp [h])
    simp [hm0, hbb, hsz, hmz2, hzv, hzs]
    exact fun h => absurd h hmz

theorem ev_lookup2s [Env] {T K E : TypeId} {x y : Operand} {b c : Nat} {kv : Kv} {k : Int} {z v : Value} (hg : mget kv k = some v) (hx : ev l x = some (.map (some b))) (hy : ev l y = some (.int .i64 k)) (hu : P.underlying T = some (.map K E)) (hK : P.underlying K = some (.int .i64))
    (hz : ∀ w, (zeroValue E).run P w = .ok z w) (hi : In L (so b (.map (ents kv) c))) :
    Ev P n ⟨d, .lookup T x y true, ty, pos, af, g⟩ l L (.tuple [v, .bool true].toArray) := by
  have := ev_lookup2 (n := n) (d := d) (ty := ty) (pos := pos) (af := af) (g := g) hx hy hu hK hz hi
  rw [hg] at this; exact this
theorem ev_lookup2n [Env] {T K E : TypeId} {x y : Operand} {b c : Nat} {kv : Kv} {k : Int} {z : Value} (hg : mget kv k = none) (hx : ev l x = some (.map (some b))) (hy : ev l y = some (.int .i64 k)) (hu : P.underlying T = some (.map K E)) (hK : P.underlying K = some (.int .i64))
    (hz : ∀ w, (zeroValue E).run P w = .ok z w) (hi : In L (so b (.map (ents kv) c))) :
    Ev P n ⟨d, .lookup T x y true, ty, pos, af, g⟩ l L (.tuple [z, .bool false].toArray) := by
  have := ev_lookup2 (n := n) (d := d) (ty := ty) (pos := pos) (af := af) (g := g) hx hy hu hK hz hi
  rw [hg] at this; exact this
theorem ev_lookups [Env] {T K E : TypeId} {x y : Operand} {b c : Nat} {kv : Kv} {k : Int} {z v : Value} (hg : mget kv k = some v) (hx : ev l x = some (.map (some b))) (hy : ev l y = some (.int .i64 k)) (hu : P.underlying T = some (.map K E)) (hK : P.underlying K = some (.int .i64))
    (hz : ∀ w, (zeroValue E).run P w = .ok z w) (hi : In L (so b (.map (ents kv) c))) :
    Ev P n ⟨d, .lookup T x y false, ty, pos, af, g⟩ l L v := by
  have := ev_lookup (n := n) (d := d) (ty := ty) (pos := pos) (af := af) (g := g) hx hy hu hK hz hi
  rw [hg] at this; exact this
/-- A store of a whole block. -/
theorem ac_storeAll [Env] {t : TypeId} {x z : Operand} {b k : Nat} {vs us : List Value} {T : TypeId} {L' : List Seg} (hx : ev l x = some (.pointer (some ⟨b, 0, none⟩))) (hz : ev l z = some (.agg us.toArray))
    (h1 : ∀ u ∈ us, u.oneCell' = true) (hs : ∀ w, (sizeOf t).run P w = .ok k w) (r : Rp L (sc b vs T) (sc b us T) L') (hk : us.length = k) (hv : vs.length = k) :
    Ac P n ⟨d, .store t x z, ty, pos, af, g⟩ l L (KTo L') :=
  ac_storeN hx hz h1 hs r hk (by omega) (by simp; omega)
/-- 'clear(xs)' of a slice that is a whole block. -/
theorem zeroCells_reps (zs : List Value) (m : Nat) (h : 0 < zs.length) : (Builtin.zeroCells zs.toArray m).toList = reps m zs := by
  unfold Builtin.zeroCells
  have := made_cells m zs h
  simp only [List.size_toArray] at this
  simp only [List.size_toArray, this]
theorem ac_clearS [Env] {T e : TypeId} {x : Operand} {b m c : Nat} {zv : Value} {zs vs : List Value} {E : TypeId} {L' : List Seg} (hx : ev l x = some (.slice (some ⟨b, 0, none⟩) m c)) (hu : P.underlying T = some (.slice e))
    (hzv : ∀ w, (zeroValue e).run P w = .ok zv w) (hzs : zv.cells = zs.toArray) (hz : 0 < zs.length) (h1 : ∀ u ∈ zs, u.oneCell' = true) (r : Rp L (sc b vs E) (sc b (reps m zs) E) L') (hv : vs.length = m * zs.length) :
    Ac P n ⟨d, .call { callee := .builtin .clear, args := #[x], argTypes := #[T] }, ty, pos, af, g⟩ l L (fun v L'' => v = .tuple #[] ∧ L'' = L') := by
  intro a w hf hh
  have hb := hh.cells r.pk.choose_spec.1.in
  have h2 : ∀ u ∈ reps m zs, u.oneCell' = true := by
    intro u hu
    unfold reps at hu
    obtain ⟨q, hq, hu⟩ := List.mem_flatten.1 hu
    rw [List.eq_of_mem_replicate hq] at hu
    exact h1 u hu
  have hst := run_storeCells_at P b 0 E (reps m zs) 0 vs.toArray w hb (by simp [hv]) h2
  have e1 : List.take (0 + 0) vs.toArray.toList ++ reps m zs ++ List.drop (0 + 0 + (reps m zs).length) vs.toArray.toList = reps m zs := by simp [hv]
  rw [e1] at hst
  refine ⟨.tuple #[], _, L', .inl ?_, ⟨rfl, rfl⟩, hh.setRow r⟩
  cases m with
  | zero =>
    have hr : reps 0 zs = [] := rfl
    have hv0 : vs = [] := List.eq_nil_of_length_eq_zero (by simpa using hv)
    subst hv0
    simp [execOp, resolve, invoke, builtin, hf.ev hx, Builtin.clear_, run_underlying hu]
    rw [hr, setRow_self w b _ _ _ hb]
  | succ m =>
    have hz2 := zeroCells_reps zs (m + 1) hz
    simp [execOp, resolve, invoke, builtin, hf.ev hx, Builtin.clear_, run_underlying hu, hzv, hzs, hz2, hst]
theorem run_eqLnil {t e : TypeId} (a : Option Addr) (p c : Nat) (hu : P.underlying t = some (.slice e)) (w : World) : (binOp .eql t (.slice a p c) (.slice none 0 0)).run P w = .ok (.bool a.isNone) w :=
  Lib.run_eql_slice_nil w t e a p c 0 0 hu
theorem run_neLnil {t e : TypeId} (a : Option Addr) (p c : Nat) (hu : P.underlying t = some (.slice e)) (w : World) : (binOp .neq t (.slice a p c) (.slice none 0 0)).run P w = .ok (.bool (!a.isNone)) w :=
  run_neq_slice_nil_any w t e a p c 0 0 hu
theorem ev_eqlLnil [Env] {t t' e : TypeId} {x z : Operand} {a : Option Addr} {p c : Nat} (hx : ev l x = some (.slice a p c)) (hz : ev l z = some (.slice none 0 0)) (hu : P.underlying t = some (.slice e)) :
    Ev P n ⟨d, .binOp .eql t x z t', ty, pos, af, g⟩ l L (.bool a.isNone) :=
  fun b w hf _ => by simp [execOp, hf.ev hx, hf.ev hz, eqGuard, run_eqLnil a p c hu]
theorem ev_neqLnil [Env] {t t' e : TypeId} {x z : Operand} {a : Option Addr} {p c : Nat} (hx : ev l x = some (.slice a p c)) (hz : ev l z = some (.slice none 0 0)) (hu : P.underlying t = some (.slice e)) :
    Ev P n ⟨d, .binOp .neq t x z t', ty, pos, af, g⟩ l L (.bool (!a.isNone)) :=
  fun b w hf _ => by simp [execOp, hf.ev hx, hf.ev hz, eqGuard, run_neLnil a p c hu]
/-- '[]T{}': a block of no cells. -/
theorem ac_bslice0 [Env] {t e s : TypeId} (hu : P.underlying t = some (.slice e)) (hs : ∀ w, (sizeOf e).run P w = .ok s w) :
    Ac P n ⟨d, .buildSlice t 0 #[], ty, pos, af, g⟩ l L (fun v L' => ∃ b, v = svVal (some (b, 0, [])) 0 ∧ L' = svSeg (some (b, 0, [])) e [] :: L) := by
  intro a w hf hh
  refine ⟨_, _, _, .inl ?_, ⟨w.heap.size, rfl, rfl⟩, hh.alloc (.cells #[] e)⟩
  have : Array.range 0 = #[] := Array.eq_empty_of_size_eq_zero (by simp)
  simp [execOp, Instr.buildSlice, run_underlying hu, hs, Instr.fill, newRow, svVal]
  rw [this, Array.map_empty]
/-! ### iterating over a map -/
def stamped (kv : Kv) (c : Nat) : Prop := (∀ x ∈ kv, x.2.2 < c) ∧ (kv.map (·.2.2)).Nodup
def left (kv : Kv) (seen : List Nat) : Kv := kv.filter fun x => !seen.contains x.2.2

theorem ac_range [Env] {T K E : TypeId} {x : Operand} {b c : Nat} {kv : Kv} (hx : ev l x = some (.map (some b))) (hu : P.underlying T = some (.map K E)) (hi : In L (so b (.map (ents kv) c))) :
    Ac P n ⟨d, .range T x, ty, pos, af, g⟩ l L (fun v L' => ∃ i, v = .pointer (some ⟨i, 0, none⟩) ∧ L' = so i (.mapIter (some b) c #[] c) :: L) := by
  intro a w hf hh
  refine ⟨_, _, _, .inl ?_, ⟨w.heap.size, rfl, rfl⟩, hh.alloc (.mapIter (some b) c #[] c)⟩
  simp [execOp, Instr.range, hf.ev hx, run_underlying hu, run_getObj (hh.obj hi)]

theorem run_getObjI {w : World} {b : Nat} {m : Option Nat} {s t : Nat} {q : Array Nat} (h : w.heap[b]? = some (.mapIter m s q t)) : (getObj b).run P w = .ok (.mapIter m s q t) w := by
  simp [getObj, Sem.run, h]
theorem run_setObjI {w : World} {b : Nat} {m : Option Nat} {s t : Nat} {q : Array Nat} {o : Obj} (h : w.heap[b]? = some (.mapIter m s q t)) : (setObj b o).run P w = .ok () (setB w b o) := by
  simp [setObj, Sem.run, h, setB]

/-- One step: over, or some entry that wasn't there yet. -/
def KNext (kv : Kv) (seen : List Nat) (L : List Seg) (Lx : Int × Value × Nat → List Seg) (v : Value) (L' : List Seg) : Prop :=
  (left kv seen = [] ∧ v = .tuple [.bool false].toArray ∧ L' = L) ∨
  (∃ x, x ∈ left kv seen ∧ v = .tuple [.bool true, .int .i64 x.1, x.2.1].toArray ∧ L' = Lx x)
theorem left_ents (kv : Kv) (seen : List Nat) : ((ents kv).filter fun e => !seen.toArray.contains e.born) = ents (left kv seen) := by
  unfold ents left
  rw [← Array.toList_inj]
  simp [List.filter_map]
  congr 1
theorem rp_exists {L : List Seg} {s s' : Seg} (h : In L s) : ∃ L', Rp L s s' L' := by
  induction h with
  | z => exact ⟨_, .z⟩
  | s _ ih => obtain ⟨L', h⟩ := ih; exact ⟨_, .s h⟩

theorem ac_next [Env] {x : Operand} {b c i : Nat} {kv : Kv} {seen : List Nat} (hx : ev l x = some (.pointer (some ⟨i, 0, none⟩))) (hii : In L (so i (.mapIter (some b) c seen.toArray c))) (hi : In L (so b (.map (ents kv) c))) (hst : stamped kv c)
    {Lx : Int × Value × Nat → List Seg} (hr : ∀ x, Rp L (so i (.mapIter (some b) c seen.toArray c)) (so i (.mapIter (some b) c (seen ++ [x.2.2]).toArray c)) (Lx x)) :
    Ac P n ⟨d, .next x false, ty, pos, af, g⟩ l L (KNext kv seen L Lx) := by
  intro a w hf hh
  have hI := hh.obj hii
  have hM := hh.obj hi
  have hall : ¬ ((!seen.toArray.isEmpty && !(ents kv).isEmpty && (ents kv).all fun e => decide (e.born ≥ c)) = true) := by
    intro h
    simp only [Bool.and_eq_true, Bool.not_eq_true', Array.all_eq_true_iff_forall_mem] at h
    obtain ⟨⟨_, h2⟩, h3⟩ := h
    cases kv with
    | nil => simp [ents] at h2
    | cons y kv =>
      have := h3 (ent y) (by simp [ents])
      have h4 := hst.1 y (by simp)
      simp [ent] at this
      omega
  have hold : ((ents (left kv seen)).filter fun e => decide (e.born < c)) = ents (left kv seen) := by
    rw [Array.filter_eq_self]
    intro e he
    simp only [ents, List.mem_toArray, List.mem_map] at he
    obtain ⟨y, hy, rfl⟩ := he
    exact decide_eq_true (hst.1 y ((List.mem_filter.1 hy).1))
  have hnew : ((ents (left kv seen)).filter fun e => decide (e.born ≥ c)) = #[] := by
    rw [Array.filter_eq_empty_iff]
    intro e he
    simp only [ents, List.mem_toArray, List.mem_map] at he
    obtain ⟨y, hy, rfl⟩ := he
    have := hst.1 y ((List.mem_filter.1 hy).1)
    simp [ent]; omega
  simp only [execOp, hf.ev hx, Instr.next, Sem.run_bind, run_getObjI hI, Result.andThen_ok, run_getObj hM]
  rw [if_neg hall]
  simp only [Sem.run_bind, Sem.run_pure, Result.andThen_ok, left_ents, hold, hnew, Array.append_empty]
  cases hl : left kv seen with
  | nil =>
    refine ⟨.tuple [.bool false].toArray, w, L, .inl ?_, .inl ⟨hl, rfl, rfl⟩, hh⟩
    simp [ents, Question.forced]
  | cons y ys =>
    have hne : (ents (y :: ys)).isEmpty = false := by simp [ents]
    simp only [hne, if_false, Bool.false_eq_true, Array.empty_append, Array.size_map]
    -- which one
    have hsz : (ents (y :: ys)).size = ys.length + 1 := by simp [ents]
    have pick : ∀ (k : Nat) (w' : World), k < ys.length + 1 → w'.heap = w.heap → (EnvOk w → EnvOk w') → ∃ v w'' L', ((do
            match ((ents (y :: ys)).map some)[k]? with
            | some (some e) => do
              setObj i (.mapIter (some b) c (seen.toArray.push e.born) c)
              pure (.tuple #[.bool true, e.key, e.val])
            | some none => pure (.tuple #[.bool false])
            | none => stuck "Next: no such candidate" : Sem Value).run P w') = .ok v w'' ∧ KNext kv seen L Lx v L' ∧ Has w'' L' := by
      intro k w' hk hw' hwe
      have hI' : w'.heap[i]? = some (.mapIter (some b) c seen.toArray c) := by rw [hw']; exact hI
      have hg : (y :: ys)[k]? = some ((y :: ys)[k]'(by simpa using hk)) := List.getElem?_eq_getElem (by simpa using hk)
      generalize hz : (y :: ys)[k]'(by simpa using hk) = z at hg
      have hmem : z ∈ left kv seen := by rw [hl, ← hz]; exact List.getElem_mem _
      refine ⟨.tuple [.bool true, .int .i64 z.1, z.2.1].toArray, setB w' i (.mapIter (some b) c (seen ++ [z.2.2]).toArray c), Lx z, ?_, .inr ⟨z, hmem, rfl, rfl⟩, (hh.of_heap hw' hwe).setB (hr z)⟩
      have e1 : ((ents (y :: ys)).map some)[k]? = some (some (ent z)) := by
        rw [Array.getElem?_map]
        have : (ents (y :: ys))[k]? = some (ent z) := by
          show ((y :: ys).map ent).toArray[k]? = _
          rw [List.getElem?_toArray, List.getElem?_map, hg]; rfl
        rw [this]; rfl
      simp only [e1, Sem.run_bind, run_setObjI hI', Result.andThen_ok, Sem.run_pure]
      simp [ent]
    by_cases hf1 : (Question.mapNext (ents (y :: ys)).size).forced = true
    · obtain ⟨v, w'', L', h1, h2, h3⟩ := pick 0 w (by omega) rfl id
      refine ⟨v, w'', L', .inl ?_, h2, h3⟩
      simp only [run_choose, hf1, if_true, Result.andThen_ok]
      exact congrArg (fun r => Result.andThen r _) h1
    · have hcut : (Question.mapNext (ents (y :: ys)).size).cut (w.tape w.drawn (.mapNext (ents (y :: ys)).size)) < ys.length + 1 := by
        simp only [Question.cut, hsz]; exact Nat.mod_lt _ (by omega)
      obtain ⟨v, w'', L', h1, h2, h3⟩ := pick _ { w with drawn := w.drawn + 1 } hcut rfl id
      refine ⟨v, w'', L', .inl ?_, h2, h3⟩
      simp only [run_choose, hf1, Bool.false_eq_true, if_false, Result.andThen_ok]
      exact congrArg (fun r => Result.andThen r _) h1

theorem left_lt {kv : Kv} {seen : List Nat} {x : Int × Value × Nat} (hx : x ∈ left kv seen) : (left kv (seen ++ [x.2.2])).length < (left kv seen).length := by
  have h1 : left kv (seen ++ [x.2.2]) = (left kv seen).filter fun y => !(y.2.2 == x.2.2) := by
    unfold left
    rw [List.filter_filter]
    apply List.filter_congr
    intro y _
    by_cases h : y.2.2 = x.2.2 <;> simp [h]
  rw [h1]
  have : ∀ (q : Kv), x ∈ q → (q.filter fun y => !(y.2.2 == x.2.2)).length < q.length := by
    intro q
    induction q with
    | nil => intro h; cases h
    | cons z q ih =>
      intro h
      have hle := List.length_filter_le (fun y : Int × Value × Nat => !(y.2.2 == x.2.2)) q
      by_cases e : z.2.2 = x.2.2
      · rw [List.filter_cons_of_neg (by simp [e])]; simp only [List.length_cons]; omega
      · rcases List.mem_cons.1 h with h | h
        · subst h; exact absurd rfl e
        · have := ih h
          rw [List.filter_cons_of_pos (by simpa using e)]; simp only [List.length_cons]; omega
  exact this _ hx
theorem left_mem {kv : Kv} {seen : List Nat} {x : Int × Value × Nat} (hx : x ∈ left kv seen) : x ∈ kv := (List.mem_filter.1 hx).1
theorem ev_entry [Env] {x : Operand} {b c i : Nat} {kv : Kv} {seen : List Nat} {y : Int × Value × Nat} (hx : ev l x = some (.pointer (some ⟨i, 0, none⟩))) (hii : In L (so i (.mapIter (some b) c (seen ++ [y.2.2]).toArray c))) (hi : In L (so b (.map (ents kv) c))) (hst : stamped kv c) (hy : y ∈ kv) :
    Ev P n ⟨d, .entry x, ty, pos, af, g⟩ l L (.tuple [.int .i64 y.1, y.2.1].toArray) := by
  intro a w hf hh
  have hI := hh.obj hii
  have hM := hh.obj hi
  have hfind : (ents kv).find? (fun e => e.born == y.2.2) = some (ent y) := by
    have : ∀ (q : Kv), (q.map (·.2.2)).Nodup → y ∈ q → (q.map ent).find? (fun e => e.born == y.2.2) = some (ent y) := by
      intro q
      induction q with
      | nil => intro _ h; cases h
      | cons z q ih =>
        intro hn h
        by_cases e : z.2.2 = y.2.2
        · have hzy : z = y := by
            rcases List.mem_cons.1 h with h | h
            · exact h.symm
            · exact absurd (List.mem_map.2 ⟨y, h, e.symm⟩) (List.nodup_cons.1 hn).1
          subst hzy
          simp [ent]
        · have hm : y ∈ q := by
            rcases List.mem_cons.1 h with h | h
            · subst h; exact absurd rfl e
            · exact h
          have := ih (List.nodup_cons.1 hn).2 hm
          simp only [List.map_cons, List.find?_cons]
          rw [show ((ent z).born == y.2.2) = false by simpa [ent] using e]
          exact this
    simpa [ents] using this kv hst.2 hy
  simp [execOp, hf.ev hx, Instr.entry, run_getObjI hI, run_getObj hM, hfind]
  simp [ent]
end
end Go.Sl
