/- A part of the proof: contracts and plain lemmas, each without conditions beyond those that it names. -/
import Derived.Test.YtnfbhgalkcmbdaaGH
import Derived.Test.YtnfbhgalkcmbdaaGE
import Derived.Scope
set_option linter.unusedVariables false
set_option linter.unusedSimpArgs false
set_option linter.constructorNameAsVariable false
namespace Go.Sl
open Go.ChangeShapes Go.WideShapes Go.ChangeAt Go.RowKit Go.Deep
set_option linter.unusedSimpArgs false
/-! acts of a kind, a number, a text and keeps -/
structure ActL where
  kind : Int
  n : Int
  s : Bytes
  kv : Value
  ks : Keeps
def ActL.cells (a : ActL) : List Value := [.int .i64 a.kind, .int .i64 a.n, .string ⟨a.s.toArray⟩, a.kv]
structure ActL.ok [Env] (R : List Seg) (a : ActL) : Prop where
  keeps : RdV R a.kv a.ks.length (keepsV a.ks)
  n : -9223372036854775808 ≤ a.n ∧ a.n ≤ 9223372036854775807
theorem ActL.ok.mono [Env] {R R' : List Seg} {a : ActL} (h : a.ok R) (hg : Ge R' R) : a.ok R' := ⟨h.keeps.mono hg, h.n⟩
def actlsV (l : List ActL) : List Value := (l.map ActL.cells).flatten
theorem actlsV_get {l : List ActL} {i : Nat} {a : ActL} (h : l[i]? = some a) : ((actlsV l).drop (i * 4)).take 4 = a.cells := flat_at (f := ActL.cells) (k := 4) (fun _ => rfl) l i a h
theorem actlsV_at {l : List ActL} {i r : Nat} {a : ActL} (h : l[i]? = some a) (hr : r < 4) : (actlsV l)[i * 4 + r]? = a.cells[r]? := by
  have := flatten_get (f := ActL.cells) (k := 4) (by omega) (fun _ => rfl) l i r hr
  rw [h] at this
  exact this
theorem ActL.ok.one [Env] {R : List Seg} {a : ActL} (h : a.ok R) : ∀ u ∈ a.cells, u.oneCell' = true := by
  intro u hu
  obtain ⟨b', c', e'⟩ := h.keeps.lenVal
  simp only [ActL.cells, List.mem_cons, List.not_mem_nil, or_false] at hu
  rcases hu with rfl | rfl | rfl | rfl
  · rfl
  · rfl
  · rfl
  · rw [e']; rfl
section
variable {H : Type} {enc : TypeId × Value → H} {P : Program} {W : World} {base : Nat} {spare : Nat → Bool} {held : Bool}
theorem open_actl {e n : Nat} {cs : List Value} {y : DataW H × List MemPlace} {f0 f1 f4 f5 g0 g1 : Field} {k : TypeId} (he : P.underlying e = some (.struct #[f0, f1, f4, f5])) (hat : fieldsAt P #[f0, f1, f4, f5] [(0, 1), (1, 1), (2, 1), (3, 1)] = true) (hC : P.cellsOf e = 4)
    (h0 : P.underlying f0.type = some (.int .i64)) (h1 : P.underlying f1.type = some (.int .i64)) (h4 : P.underlying f4.type = some .string)
    (h5 : P.underlying f5.type = some (.slice k)) (hk : P.underlying k = some (.struct #[g0, g1])) (honek : oneCellFields P #[g0, g1] = true) (hCk : P.cellsOf k = 2) (hg0 : P.underlying g0.type = some (.int .i64)) (hg1 : P.underlying g1.type = some (.int .i64))
    (h : DataW.trod enc P W base spare held n e cs = some y) : ∃ a : ActL, cs = a.cells ∧ @ActL.ok (envAt W) [baseSeg W] a := by
  obtain ⟨xs, n', _, _, hl, hxl, hf⟩ := DataW.trod_struct he h
  rw [hC] at hl
  have F := open_fld hat hf (by simpa using hxl)
  obtain ⟨_, q0⟩ := F 0 f0 0 1 rfl rfl
  obtain ⟨_, q1⟩ := F 1 f1 1 1 rfl rfl
  obtain ⟨_, q4⟩ := F 2 f4 2 1 rfl rfl
  obtain ⟨_, q5⟩ := F 3 f5 3 1 rfl rfl
  obtain ⟨n0, e0, -⟩ := open_i64 h0 q0
  obtain ⟨n1, e1, b1⟩ := open_i64 h1 q1
  obtain ⟨s4, e4⟩ := open_str h4 q4
  obtain ⟨kv, ks, e5, hkk, _⟩ := open_keeps h5 hk honek hCk hg0 hg1 q5
  refine ⟨⟨n0, n1, s4, kv, ks⟩, ?_, @ActL.ok.mk (envAt W) _ _ hkk b1⟩
  match cs, hl with
  | [c0, c1, c2, c3], _ =>
    simp at e0 e1 e4 e5
    subst e0 e1 e4 e5
    rfl
end
end Go.Sl

namespace Go.Sl
variable {P : Program} {n : Nat} {Q : Exit → Act → World → Prop} {l : List (Nat × Value)} {L : List Seg}
/-! labels and their scopes, without a goto -/
theorem cscope [Env] {c : Code} (h : Sc P n c (Exit.noGoto Q) l L) : Sc P n (.scope c) Q l L := fun a w hf hh => wp_scope_straight (h a w hf hh)
theorem clabel [Env] {i : Nat} (k : Sk n (Q .normal) l L) : Sc P n (.label i) Q l L := fun a w hf hh => wp_label (k a w hf hh)
theorem kg [Env] {e : Exit} (he : Exit.noGoto Q e = Q e) (h : Sk n (Q e) l L) : Sk n (Exit.noGoto Q e) l L := by rw [he]; exact h
end Go.Sl

namespace Go.Sl
set_option linter.unusedSimpArgs false
/-! slices that begin within their block -/
abbrev Ov := Option (Nat × Nat × List Value × List Value)
def ovVal : Ov → Nat → Value
  | none, _ => .slice none 0 0
  | some (b, cap, pre, _), m => .slice (some ⟨b, pre.length, none⟩) m cap
def ovSeg : Ov → TypeId → List Value → Seg
  | none, _, _ => []
  | some (b, _, pre, sp), e, xs => sc b (pre ++ xs ++ sp) e
def ovOk : Ov → Nat → Nat → List Value → Prop
  | none, m, _, xs => m = 0 ∧ xs = []
  | some (_, cap, _, sp), m, s, xs => m ≤ cap ∧ cap ≤ maxLen ∧ xs.length = m * s ∧ cap * s ≤ (xs ++ sp).length
theorem ovOk.len {s : Ov} {m k : Nat} {xs : List Value} (h : ovOk s m k xs) : xs.length = m * k := by
  cases s with
  | none => obtain ⟨rfl, rfl⟩ := h; simp
  | some p => exact h.2.2.1
theorem rdV_ov [Env] {L : List Seg} {s : Ov} {e : TypeId} {m k : Nat} {xs : List Value} (hi : In L (ovSeg s e xs)) (hok : ovOk s m k xs) : RdV L (ovVal s m) m xs := by
  cases s with
  | none =>
    obtain ⟨h1, h2⟩ := hok
    subst h1; subst h2
    exact rdV_nil
  | some p =>
    obtain ⟨b, cap, pre, sp⟩ := p
    refine rdV_in (k := m * k) hi hok.2.2.1 ?_
    rw [List.append_assoc, List.drop_left, ← hok.2.2.1, List.take_left]
theorem ovCap {s : Ov} {m k : Nat} {xs : List Value} (h : ovOk s m k xs) : CapOk (ovVal s m) := by
  intro a m' c e
  cases s with
  | none => simp only [ovVal, Value.slice.injEq] at e; omega
  | some p => obtain ⟨b, cap, pre, sp⟩ := p; simp only [ovVal, Value.slice.injEq] at e; have := h.1; omega
theorem run_append_ov [Env] {P : Program} {w : World} {L M : List Seg} {s : Ov} {e t xT ty : TypeId} {i : TypeInfo} {z x : Value} {size m k : Nat} {xs us : List Value}
    (hh : Has w L) (hp : Pk L (ovSeg s e xs) M)
    (ht : P.underlying t = some (.slice e)) {dx : TypeDesc} (hx : P.underlying xT = some dx) (hni : ∀ q, dx ≠ .int q) (hi : P.info? e = some i) (hz : i.zero = some z)
    (hsize : i.size = size) (hzs : z.cells.size = size) (hok : ovOk s m size xs)
    (hsrc : Src P L size x k us) (h1 : ∀ u ∈ us, u.oneCell' = true) (hbig : (m + k) * (i.bytes + 1) ≤ 140737488355328) :
    ∃ s' w', (Builtin.append_ #[t, xT] ty #[ovVal s m, x]).run P w = .ok (ovVal s' (m + k)) w' ∧ ovOk s' (m + k) size (xs ++ us) ∧ Has w' (ovSeg s' e (xs ++ us) :: M) := by
  obtain ⟨hul, hsr⟩ := hsrc
  have hm1 : (m + k) ≤ 140737488355328 := Nat.le_trans (Nat.le_mul_of_pos_right _ (by omega)) hbig
  have hmat : (dx matches .int _) = false := by cases dx <;> first | rfl | exact absurd rfl (hni _)
  have hlx : (xs ++ us).length = (m + k) * size := by rw [List.length_append, hok.len, hul, Nat.add_mul]
  have grow : ∀ (old : Nat) (base : Option Addr), old < m + k → ovVal s m = .slice base m old → (Builtin.firstCells size m (ovVal s m)).run P w.drew = .ok xs.toArray w.drew →
      ∃ s' w', (Builtin.append_ #[t, xT] ty #[ovVal s m, x]).run P w = .ok (ovVal s' (m + k)) w' ∧ ovOk s' (m + k) size (xs ++ us) ∧ Has w' (ovSeg s' e (xs ++ us) :: M) := by
    intro old base ho hv hfirst
    have h63 : ¬ (9223372036854775807 < (m : Int) + (k : Int)) := by omega
    have h48 : ¬ (281474976710656 < Builtin.nextslicecap (m + k) old * i.bytes) := by
      have h2 := growslice_fits (need := m + k) (old := old) (bytes := i.bytes) ho (Nat.le_trans (Nat.mul_le_mul_left _ (by omega)) hbig)
      omega
    have hs2 := (hsr w.drew (hh.drew)).2
    have hs1 := (hsr w hh).1
    refine ⟨some (w.heap.size, grownCap w (m + k) old e, [], (Builtin.zeroCells z.cells (grownCap w (m + k) old e - (m + k))).toList),
      w.drew.alloc (.cells (xs.toArray ++ us.toArray ++ Builtin.zeroCells z.cells (grownCap w (m + k) old e - (m + k))) e), ?_, ?_, ?_⟩
    · rw [hv] at hfirst ⊢
      simp [Builtin.append_, run_underlying ht, run_underlying hx, sizeOf, typeInfo, zeroValue, hi, hz, hsize, hmat, hs1, Nat.not_le.2 ho, h48, h63, Question.forced, hs2, hfirst, newRow, grownCap, ovVal]
      rw [← Array.append_assoc]; simp
    · refine ⟨grownCap_ge _ _ _ _, grownCap_le_maxLen _ _ _ _ (by unfold maxLen; omega), hlx, ?_⟩
      rw [List.length_append, hlx, Array.length_toList, size_zeroCells, hzs, ← Nat.add_mul]
      have := grownCap_ge w (m + k) old e
      exact Nat.mul_le_mul_right _ (by omega)
    · have h3 := ((hp.has hh).drew).alloc (.cells (xs.toArray ++ us.toArray ++ Builtin.zeroCells z.cells (grownCap w (m + k) old e - (m + k))) e)
      have h4 := (Ge.pick .z (Ge.drop .refl)).has h3
      refine h4.re ?_
      simp [so, ovSeg, sc]
  cases s with
  | none =>
    obtain ⟨rfl, rfl⟩ := hok
    by_cases hk : k = 0
    · subst hk
      have hu0 : us = [] := List.eq_nil_of_length_eq_zero (by simpa using hul)
      subst hu0
      have hs1 := (hsr w hh).1
      have hs2 := (hsr w hh).2
      refine ⟨none, w, ?_, ⟨rfl, rfl⟩, (hp.has hh).re (by simp [ovSeg])⟩
      simp [Builtin.append_, run_underlying ht, run_underlying hx, sizeOf, typeInfo, hi, hsize, hmat, hs1, hs2, ovVal]
    · exact grow 0 none (by omega) rfl (by simp [ovVal, Builtin.firstCells])
  | some p =>
    obtain ⟨b, cap, pre, sp⟩ := p
    obtain ⟨hmc, hcm, hxl, hal⟩ := hok
    have hin : In L (sc b (pre ++ xs ++ sp) e) := hp.in
    by_cases hroom : m + k ≤ cap
    · have hs1 := (hsr w hh).1
      have hs2 := (hsr w hh).2
      have hg := hh.cells hin
      have h5 : (m + k) * size ≤ cap * size := Nat.mul_le_mul_right _ hroom
      have hfit : pre.length + m * size + us.length ≤ (pre ++ xs ++ sp).length := by
        simp only [List.length_append] at hal ⊢
        rw [Nat.add_mul] at h5
        omega
      have hst := run_storeCells_at P b (pre.length + m * size) e us 0 (pre ++ xs ++ sp).toArray w hg (by simpa using hfit) h1
      simp only [Nat.add_zero] at hst
      have e1 : (pre ++ xs ++ sp).take (pre.length + m * size) = pre ++ xs := by rw [← hxl, ← List.length_append, List.take_left]
      have e2 : (pre ++ xs ++ sp).drop (pre.length + m * size + us.length) = sp.drop us.length := by
        rw [← hxl, ← List.length_append]
        generalize pre ++ xs = A
        rw [List.drop_append, List.drop_eq_nil_of_le (by omega), List.nil_append]; congr 1; omega
      refine ⟨some (b, cap, pre, sp.drop us.length), w.setRow b (pre ++ (xs ++ us) ++ sp.drop us.length).toArray, ?_, ⟨hroom, hcm, hlx, ?_⟩, ?_⟩
      · have e1' : List.take (pre.length + m * size) (pre ++ xs ++ sp).toArray.toList = pre ++ xs := e1
        have e2' : List.drop (pre.length + m * size + us.length) (pre ++ xs ++ sp).toArray.toList = sp.drop us.length := e2
        rw [e1', e2', List.append_assoc pre xs us] at hst
        simp [Builtin.append_, run_underlying ht, run_underlying hx, sizeOf, typeInfo, hi, hsize, hmat, hs1, hs2, ovVal, hroom, add_lit, hst]
      · simp only [List.length_append, List.length_drop] at hal ⊢
        rw [Nat.add_mul] at h5
        omega
      · exact (hp.has hh).setRow .z
    · have hrd := (src_at (P := P) (size := size) (b := b) (o := pre.length) (m := m) (c := cap) (us := xs) hin (by rw [List.append_assoc, List.drop_left, ← hxl, List.take_left]) hxl).2 w.drew hh.drew
      exact grow cap _ (by omega) rfl hrd.2
def KOv (e : TypeId) (m size : Nat) (xs : List Value) (L : List Seg) (v : Value) (L' : List Seg) : Prop := ∃ s, v = ovVal s m ∧ ovOk s m size xs ∧ L' = ovSeg s e xs :: L
section
variable {P : Program} {n : Nat} {l : List (Nat × Value)} {L : List Seg} {dd : Option Tmp} {ty : TypeId} {pos : String} {af : Array Edge} {g : Option (Nat × Bool)}
theorem ac_appendO [Env] {x z : Operand} {s : Ov} {v : Value} {e t xT : TypeId} {i : TypeInfo} {zv : Value} {m k size : Nat} {xs us : List Value} {M : List Seg} {dx : TypeDesc}
    (hx : ev l x = some (ovVal s m)) (hz : ev l z = some v) (hp : Pk L (ovSeg s e xs) M) (ht : P.underlying t = some (.slice e)) (hxt : P.underlying xT = some dx) (hni : ∀ q, dx ≠ .int q)
    (hti : ∀ w, (typeInfo e).run P w = .ok i w) (hzv : i.zero = some zv) (hsize : i.size = size) (hzs : zv.cells.size = size) (hok : ovOk s m size xs) (hsrc : Src P L size v k us)
    (h1 : ∀ u ∈ us, u.oneCell' = true) (hbig : (m + k) * (i.bytes + 1) ≤ 140737488355328) :
    Ac P n ⟨dd, .call { callee := .builtin .append, args := #[x, z], argTypes := #[t, xT] }, ty, pos, af, g⟩ l L (KOv e (m + k) size (xs ++ us) M) := by
  intro a w hf hh
  obtain ⟨s', w', hr, hok', hh'⟩ := run_append_ov (ty := ty) hh hp ht hxt hni (info_of hti) hzv hsize hzs hok hsrc h1 hbig
  refine ⟨_, w', _, .inl ?_, ⟨s', rfl, hok', rfl⟩, hh'⟩
  simp [execOp, resolve, invoke, builtin, hf.ev hx, hf.ev hz, hr]
end
/-- The first one is cut off. -/
theorem ov_tail {s : Ov} {m : Nat} {x : Value} {xs : List Value} (hok : ovOk s (m + 1) 1 (x :: xs)) : ∃ s', vSl (ovVal s (m + 1)) 1 (m + 1) 1 = ovVal s' m ∧ ovOk s' m 1 xs ∧ ∀ e, ovSeg s' e xs = ovSeg s e (x :: xs) := by
  cases s with
  | none => obtain ⟨h, _⟩ := hok; omega
  | some p =>
    obtain ⟨b, cap, pre, sp⟩ := p
    obtain ⟨h1, h2, h3, h4⟩ := hok
    have hxl : xs.length = m := by simpa using h3
    by_cases hc : cap = 1
    · subst hc
      have hm : m = 0 := by omega
      subst hm
      have hx0 : xs = [] := List.eq_nil_of_length_eq_zero hxl
      subst hx0
      refine ⟨some (b, 0, pre, x :: sp), rfl, ⟨Nat.le_refl _, by omega, rfl, by simp⟩, fun e => by simp [ovSeg]⟩
    · refine ⟨some (b, cap - 1, pre ++ [x], sp), ?_, ⟨by omega, by omega, by omega, ?_⟩, fun e => by simp [ovSeg]⟩
      · simp only [vSl, ovVal, sliced, hc, if_false, Option.map_some, add_lit, List.length_append, List.length_singleton]
        rfl
      · simp only [List.length_append, List.length_cons] at h4 ⊢
        omega
end Go.Sl
