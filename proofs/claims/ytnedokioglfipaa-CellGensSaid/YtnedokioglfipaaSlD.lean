/- A part of the proof: contracts and plain lemmas, each without conditions beyond those that it names. -/
import Derived.Test.YtnedokioglfipaaSlC
set_option linter.unusedVariables false
set_option linter.unusedSimpArgs false
set_option linter.constructorNameAsVariable false
namespace Go.Sl
set_option linter.unusedSimpArgs false

theorem Has.setRow [Env] {w : World} {L L' : List Seg} {b : Nat} {vs vs' : List Value} {T : TypeId} (h : Has w L) (r : Rp L (sc b vs T) (sc b vs' T) L') : Has (w.setRow b vs'.toArray) L' := by
  obtain ⟨M, h1, h2⟩ := r.pk
  have hh := h1.has h
  have hb : w.heap[b]? = some (.cells vs.toArray T (0, 0)) := hh.mem (b, _) (by simp [sc])
  refine h2.back ⟨h.env, ?_, ?_⟩
  · intro x hx
    have hnd := hh.nd
    simp only [sc, List.flatten_cons, List.cons_append, List.nil_append, List.mem_cons, List.map_cons, List.nodup_cons] at hx hnd
    rcases hx with rfl | hx
    · exact setRow_heap w b _ _ _ _ hb
    · have hne : x.1 ≠ b := fun e => hnd.1 (List.mem_map.2 ⟨x, hx, e⟩)
      rw [setRow_other w b x.1 _ hne]
      exact hh.mem x (by simp [sc, hx])
  · simpa [sc] using hh.nd

theorem Pk.in {L L' : List Seg} {s : Seg} (h : Pk L s L') : In L s := by
  induction h with
  | z => exact .z
  | s _ ih => exact .s ih

/-! ### slices that are owned: a block, its capacity, what lies behind the elements; or nil -/
abbrev Sv := Option (Nat × Nat × List Value)
def svVal : Sv → Nat → Value
  | none, _ => .slice none 0 0
  | some (b, cap, _), m => .slice (some ⟨b, 0, none⟩) m cap
def svSeg : Sv → TypeId → List Value → Seg
  | none, _, _ => []
  | some (b, _, sp), e, xs => sc b (xs ++ sp) e
def svOk : Sv → Nat → Nat → List Value → Prop
  | none, m, _, xs => m = 0 ∧ xs = []
  | some (_, cap, sp), m, s, xs => m ≤ cap ∧ cap ≤ maxLen ∧ xs.length = m * s ∧ (xs ++ sp).length = cap * s

theorem svOk.len {s : Sv} {m k : Nat} {xs : List Value} (h : svOk s m k xs) : xs.length = m * k := by
  cases s with
  | none => obtain ⟨rfl, rfl⟩ := h; simp
  | some p => exact h.2.2.1

/-- What a slice's (or a string's) first elements are, in every world in which L lies. -/
def Src [Env] (P : Program) (L : List Seg) (size : Nat) (x : Value) (m : Nat) (us : List Value) : Prop :=
  us.length = m * size ∧ ∀ w, Has w L → (Builtin.lenOf x).run P w = .ok m w ∧ (Builtin.firstCells size m x).run P w = .ok us.toArray w

theorem src_at [Env] {P : Program} {L : List Seg} {size b o m c : Nat} {vs us : List Value} {T : TypeId} {fr : Nat × Nat} (hi : In L (so b (.cells vs.toArray T fr))) (hu : (vs.drop o).take (m * size) = us) (hl : us.length = m * size) :
    Src P L size (.slice (some ⟨b, o, none⟩) m c) m us := by
  refine ⟨hl, fun w hh => ⟨by simp [Builtin.lenOf], ?_⟩⟩
  refine run_firstCells_some w size m _ m c us hl (fun j v hj => ?_)
  rw [add_lit]
  refine cell_at hh hi ?_
  rw [← hu, List.getElem?_take] at hj
  split at hj
  · rwa [List.getElem?_drop] at hj
  · cases hj
theorem src_nil [Env] {P : Program} {L : List Seg} {size : Nat} : Src P L size (.slice none 0 0) 0 [] :=
  ⟨by simp, fun w _ => ⟨by simp [Builtin.lenOf], by simp [Builtin.firstCells]⟩⟩
theorem src_str [Env] {P : Program} {L : List Seg} {s : ByteArray} : Src P L 1 (.string s) s.size (s.data.toList.map fun b => .int .u8 b.toNat) := by
  refine ⟨by simp, fun w _ => ⟨by simp [Builtin.lenOf], ?_⟩⟩
  have : s.extract 0 s.size = s := by simp
  simp [Builtin.firstCells, this]
  rw [← Array.toList_inj]; simp
theorem src_sv [Env] {P : Program} {L : List Seg} {s : Sv} {e : TypeId} {size m : Nat} {xs : List Value} (hi : In L (svSeg s e xs)) (hok : svOk s m size xs) : Src P L size (svVal s m) m xs := by
  cases s with
  | none => obtain ⟨rfl, rfl⟩ := hok; exact src_nil
  | some p => exact src_at hi (by simp [← hok.2.2.1]) hok.2.2.1

theorem run_append_sv [Env] {P : Program} {w : World} {L M : List Seg} {s : Sv} {e t xT ty : TypeId} {i : TypeInfo} {z x : Value} {size m k : Nat} {xs us : List Value}
    (hh : Has w L) (hp : Pk L (svSeg s e xs) M)
    (ht : P.underlying t = some (.slice e)) {dx : TypeDesc} (hx : P.underlying xT = some dx) (hni : ∀ q, dx ≠ .int q) (hi : P.info? e = some i) (hz : i.zero = some z)
    (hsize : i.size = size) (hzs : z.cells.size = size) (hok : svOk s m size xs)
    (hsrc : Src P L size x k us) (h1 : ∀ u ∈ us, u.oneCell' = true) (hbig : (m + k) * (i.bytes + 1) ≤ 140737488355328) :
    ∃ s' w', (Builtin.append_ #[t, xT] ty #[svVal s m, x]).run P w = .ok (svVal s' (m + k)) w' ∧ svOk s' (m + k) size (xs ++ us) ∧ Has w' (svSeg s' e (xs ++ us) :: M) := by
  obtain ⟨hul, hsr⟩ := hsrc
  have hm1 : (m + k) ≤ 140737488355328 := Nat.le_trans (Nat.le_mul_of_pos_right _ (by omega)) hbig
  have hmat : (dx matches .int _) = false := by cases dx <;> first | rfl | exact absurd rfl (hni _)
  have hlx : (xs ++ us).length = (m + k) * size := by rw [List.length_append, hok.len, hul, Nat.add_mul]
  -- a new block
  have grow : ∀ (old : Nat) (base : Option Addr), old < m + k → svVal s m = .slice base m old → (Builtin.firstCells size m (svVal s m)).run P w.drew = .ok xs.toArray w.drew →
      ∃ s' w', (Builtin.append_ #[t, xT] ty #[svVal s m, x]).run P w = .ok (svVal s' (m + k)) w' ∧ svOk s' (m + k) size (xs ++ us) ∧ Has w' (svSeg s' e (xs ++ us) :: M) := by
    intro old base ho hv hfirst
    have h63 : ¬ (9223372036854775807 < (m : Int) + (k : Int)) := by omega
    have h48 : ¬ (281474976710656 < Builtin.nextslicecap (m + k) old * i.bytes) := by
      have h2 := growslice_fits (need := m + k) (old := old) (bytes := i.bytes) ho (Nat.le_trans (Nat.mul_le_mul_left _ (by omega)) hbig)
      omega
    have hs2 := (hsr w.drew (hh.drew)).2
    have hs1 := (hsr w hh).1
    refine ⟨some (w.heap.size, grownCap w (m + k) old e, (Builtin.zeroCells z.cells (grownCap w (m + k) old e - (m + k))).toList),
      w.drew.alloc (.cells (xs.toArray ++ us.toArray ++ Builtin.zeroCells z.cells (grownCap w (m + k) old e - (m + k))) e), ?_, ?_, ?_⟩
    · rw [hv] at hfirst ⊢
      simp [Builtin.append_, run_underlying ht, run_underlying hx, sizeOf, typeInfo, zeroValue, hi, hz, hsize, hmat, hs1, Nat.not_le.2 ho, h48, h63, Question.forced, hs2, hfirst, newRow, grownCap, svVal]
      rw [← Array.append_assoc]; simp
    · refine ⟨grownCap_ge _ _ _ _, grownCap_le_maxLen _ _ _ _ (by unfold maxLen; omega), hlx, ?_⟩
      rw [List.length_append, hlx, Array.length_toList, size_zeroCells, hzs, ← Nat.add_mul]
      have := grownCap_ge w (m + k) old e
      congr 1
      omega
    · have h3 := ((hp.has hh).drew).alloc (.cells (xs.toArray ++ us.toArray ++ Builtin.zeroCells z.cells (grownCap w (m + k) old e - (m + k))) e)
      have h4 := (Ge.pick .z (Ge.drop .refl)).has h3
      refine h4.re ?_
      simp [so, svSeg, sc]
  cases s with
  | none =>
    obtain ⟨rfl, rfl⟩ := hok
    by_cases hk : k = 0
    · subst hk
      have hu0 : us = [] := List.eq_nil_of_length_eq_zero (by simpa using hul)
      subst hu0
      have hs1 := (hsr w hh).1
      have hs2 := (hsr w hh).2
      refine ⟨none, w, ?_, ⟨rfl, rfl⟩, (hp.has hh).re (by simp [svSeg])⟩
      simp [Builtin.append_, run_underlying ht, run_underlying hx, sizeOf, typeInfo, hi, hsize, hmat, hs1, hs2, svVal]
    · exact grow 0 none (by omega) rfl (by simp [svVal, Builtin.firstCells])
  | some p =>
    obtain ⟨b, cap, sp⟩ := p
    obtain ⟨hmc, hcm, hxl, hal⟩ := hok
    have hin : In L (sc b (xs ++ sp) e) := hp.in
    by_cases hroom : m + k ≤ cap
    · have hs1 := (hsr w hh).1
      have hs2 := (hsr w hh).2
      have hg := hh.cells hin
      have hfit : m * size + us.length ≤ (xs ++ sp).length := by rw [hal, hul, ← Nat.add_mul]; exact Nat.mul_le_mul_right _ hroom
      have hst := run_storeCells_at P b (m * size) e us 0 (xs ++ sp).toArray w hg (by simpa using hfit) h1
      simp only [Nat.add_zero] at hst
      have e1 : (xs ++ sp).take (m * size) = xs := by rw [← hxl]; simp
      have e2 : (xs ++ sp).drop (m * size + us.length) = sp.drop us.length := by rw [← hxl]; simp [List.drop_append]
      refine ⟨some (b, cap, sp.drop us.length), w.setRow b ((xs ++ us) ++ sp.drop us.length).toArray, ?_, ⟨hroom, hcm, hlx, ?_⟩, ?_⟩
      · have e1' : List.take (m * size) (xs ++ sp).toArray.toList = xs := e1
        have e2' : List.drop (m * size + us.length) (xs ++ sp).toArray.toList = sp.drop us.length := e2
        rw [e1', e2'] at hst
        simp [Builtin.append_, run_underlying ht, run_underlying hx, sizeOf, typeInfo, hi, hsize, hmat, hs1, hs2, svVal, hroom, add_lit, hst]
      · rw [List.length_append, hlx, List.length_drop]
        rw [List.length_append, hxl] at hal
        rw [hul]
        have h5 : (m + k) * size ≤ cap * size := Nat.mul_le_mul_right _ hroom
        rw [Nat.add_mul] at h5 ⊢
        omega
      · exact (hp.has hh).setRow .z
    · have hrd := (src_at (P := P) (size := size) (b := b) (o := 0) (m := m) (c := cap) (us := xs) hin (by simp [← hxl]) hxl).2 w.drew hh.drew
      exact grow cap _ (by omega) rfl hrd.2
end Go.Sl
