/- A part of the proof: contracts and plain lemmas, each without conditions beyond those that it names. -/
import Derived.Test.YtebijajimmjknaaGI
import Derived.Test.YtebijajimmjknaaGH
import Derived.OpenShut
set_option linter.unusedVariables false
set_option linter.unusedSimpArgs false
set_option linter.constructorNameAsVariable false
/- From the readings of arguments to messages and acts. -/
namespace Go.Sl
open Go.ChangeShapes Go.WideShapes Go.ChangeAt Go.RowKit Go.Deep
set_option linter.unusedSimpArgs false
def msgsV (l : List MsgM) : List Value := (l.map MsgM.cells).flatten
structure ActW where
  kind : Int
  n : Int
  fr : Int
  m : MsgM
  s : Bytes
  kv : Value
  ks : Keeps
def ActW.cells (a : ActW) : List Value := [.int .i64 a.kind, .int .i64 a.n, .int .i64 a.fr] ++ a.m.cells ++ [.string ⟨a.s.toArray⟩, a.kv]
structure ActW.ok [Env] (R : List Seg) (a : ActW) : Prop where
  keeps : RdV R a.kv a.ks.length (keepsV a.ks)
  n : -9223372036854775808 ≤ a.n ∧ a.n ≤ 9223372036854775807
  fr : -9223372036854775808 ≤ a.fr ∧ a.fr ≤ 9223372036854775807
theorem ActW.ok.mono [Env] {R R' : List Seg} {a : ActW} (h : a.ok R) (hg : Ge R' R) : a.ok R' := ⟨h.keeps.mono hg, h.n, h.fr⟩
def actwsV (l : List ActW) : List Value := (l.map ActW.cells).flatten
structure ActB where
  kind : Int
  n : Int
  m : MsgM
  s : Bytes
  kv : Value
  ks : Keeps
def ActB.cells (a : ActB) : List Value := [.int .i64 a.kind, .int .i64 a.n] ++ a.m.cells ++ [.string ⟨a.s.toArray⟩, a.kv]
structure ActB.ok [Env] (R : List Seg) (a : ActB) : Prop where
  keeps : RdV R a.kv a.ks.length (keepsV a.ks)
  n : -9223372036854775808 ≤ a.n ∧ a.n ≤ 9223372036854775807
theorem ActB.ok.mono [Env] {R R' : List Seg} {a : ActB} (h : a.ok R) (hg : Ge R' R) : a.ok R' := ⟨h.keeps.mono hg, h.n⟩
def actbsV (l : List ActB) : List Value := (l.map ActB.cells).flatten
theorem flat_at {α : Type} {f : α → List Value} {k : Nat} (hf : ∀ x, (f x).length = k) : ∀ (l : List α) (i : Nat) (x : α), l[i]? = some x → ((((l.map f).flatten).drop (i * k)).take k) = f x
  | [], i, x, h => by simp at h
  | z :: l, 0, x, h => by
    simp at h; subst h
    simp only [List.map_cons, List.flatten_cons, Nat.zero_mul, List.drop_zero]
    rw [List.take_append_of_le_length (by rw [hf]; exact Nat.le_refl _), List.take_of_length_le (by rw [hf]; exact Nat.le_refl _)]
  | z :: l, i + 1, x, h => by
    have := flat_at hf l i x (by simpa using h)
    rw [show (i + 1) * k = k + i * k by rw [Nat.succ_mul]; omega, ← List.drop_drop]
    simp only [List.map_cons, List.flatten_cons]
    have e : (f z ++ (List.map f l).flatten).drop k = (List.map f l).flatten := List.drop_left' (hf z)
    rw [e]
    exact this
theorem actwsV_get {l : List ActW} {i : Nat} {a : ActW} (h : l[i]? = some a) : ((actwsV l).drop (i * 18)).take 18 = a.cells := flat_at (f := ActW.cells) (k := 18) (fun _ => rfl) l i a h
theorem actbsV_get {l : List ActB} {i : Nat} {a : ActB} (h : l[i]? = some a) : ((actbsV l).drop (i * 17)).take 17 = a.cells := flat_at (f := ActB.cells) (k := 17) (fun _ => rfl) l i a h
theorem msgsV_get {l : List MsgM} {i : Nat} {a : MsgM} (h : l[i]? = some a) : ((msgsV l).drop (i * 13)).take 13 = a.cells := flat_at (f := MsgM.cells) (k := 13) (fun _ => rfl) l i a h
def fieldsAt (P : Program) (fs : Array Field) (l : List (Nat × Nat)) : Bool := (fs.toList.zip l).all fun x => Nat.beq x.1.offset x.2.1 && Nat.beq (P.cellsOf x.1.type) x.2.2
theorem at_of {P : Program} {fs : Array Field} {l : List (Nat × Nat)} (h : fieldsAt P fs l = true) (i : Nat) (f : Field) (q : Nat × Nat) (hf : fs[i]? = some f) (hq : l[i]? = some q) : f.offset = q.1 ∧ P.cellsOf f.type = q.2 := by
  have hm : (f, q) ∈ fs.toList.zip l := by
    have : (fs.toList.zip l)[i]? = some (f, q) := by rw [List.getElem?_zip_eq_some]; exact ⟨by simpa using hf, hq⟩
    exact List.mem_of_getElem? this
  have := List.all_eq_true.1 h _ hm
  simp only [Bool.and_eq_true] at this
  exact ⟨Nat.eq_of_beq_eq_true this.1, Nat.eq_of_beq_eq_true this.2⟩
section
variable {H : Type} {enc : TypeId × Value → H} {P : Program} {W : World} {base : Nat} {spare : Nat → Bool} {held : Bool}
theorem open_str {e n : Nat} {cs : List Value} {y : DataW H × List MemPlace} (he : P.underlying e = some .string) (h : DataW.trod enc P W base spare held n e cs = some y) : ∃ b : Bytes, cs = [.string ⟨b.toArray⟩] := by
  obtain ⟨s, hs, _⟩ := DataW.trod_string he h
  exact ⟨s.data.toList, by rw [hs, ← str_eta]⟩
/-- A struct's field, with its place. -/
theorem open_fld {fs : Array Field} {l : List (Nat × Nat)} {cs : List Value} {xs : List (DataW H × List MemPlace)} {n : Nat} (hat : fieldsAt P fs l = true)
    (hf : ∀ (i : Nat) (f : Field), fs[i]? = some f → DataW.trod enc P W base spare held n f.type ((cs.drop f.offset).take (P.cellsOf f.type)) = xs[i]?) (hx : xs.length = fs.size)
    (i : Nat) (f : Field) (o k : Nat) (h1 : fs[i]? = some f) (h2 : l[i]? = some (o, k)) : ∃ y, DataW.trod enc P W base spare held n f.type ((cs.drop o).take k) = some y := by
  obtain ⟨a, b⟩ := at_of hat i f (o, k) h1 h2
  have := hf i f h1
  rw [a, b] at this
  have hi : i < fs.size := by
    rcases Nat.lt_or_ge i fs.size with h | h
    · exact h
    · rw [Array.getElem?_eq_none h] at h1; cases h1
  exact ⟨_, this.trans (List.getElem?_eq_getElem (by omega))⟩
abbrev msgAt : List (Nat × Nat) := [(0, 1), (1, 1), (2, 1), (3, 1), (4, 1), (5, 1), (6, 1), (7, 4), (11, 1), (12, 1)]
theorem open_msg {e n : Nat} {cs : List Value} {y : DataW H × List MemPlace} {f0 f1 f2 f3 f4 f5 f6 f7 f8 f9 : Field} {g : TypeId} (he : P.underlying e = some (.struct #[f0, f1, f2, f3, f4, f5, f6, f7, f8, f9])) (hat : fieldsAt P #[f0, f1, f2, f3, f4, f5, f6, f7, f8, f9] msgAt = true) (hC : P.cellsOf e = 13)
    (h0 : P.underlying f0.type = some (.int .i64)) (h1 : P.underlying f1.type = some (.int .i64)) (h2 : P.underlying f2.type = some (.int .i64)) (h3 : P.underlying f3.type = some (.int .i64)) (h4 : P.underlying f4.type = some (.int .i64)) (h5 : P.underlying f5.type = some (.int .i64)) (h6 : P.underlying f6.type = some (.int .i64))
    (h7 : P.underlying f7.type = some (.array 4 g)) (hg : P.underlying g = some (.int .i64)) (hCg : P.cellsOf g = 1) (h8 : P.underlying f8.type = some .string) (h9 : P.underlying f9.type = some .string)
    (h : DataW.trod enc P W base spare held n e cs = some y) : ∃ m : MsgM, cs = m.cells := by
  obtain ⟨xs, n', _, _, hl, hxl, hf⟩ := DataW.trod_struct he h
  rw [hC] at hl
  match cs, hl with
  | [c0, c1, c2, c3, c4, c5, c6, c7, c8, c9, c10, c11, c12], _ =>
    have F := open_fld hat hf (by simpa using hxl)
    obtain ⟨_, q0⟩ := F 0 f0 0 1 rfl rfl
    obtain ⟨_, q1⟩ := F 1 f1 1 1 rfl rfl
    obtain ⟨_, q2⟩ := F 2 f2 2 1 rfl rfl
    obtain ⟨_, q3⟩ := F 3 f3 3 1 rfl rfl
    obtain ⟨_, q4⟩ := F 4 f4 4 1 rfl rfl
    obtain ⟨_, q5⟩ := F 5 f5 5 1 rfl rfl
    obtain ⟨_, q6⟩ := F 6 f6 6 1 rfl rfl
    obtain ⟨_, q7⟩ := F 7 f7 7 4 rfl rfl
    obtain ⟨_, q8⟩ := F 8 f8 11 1 rfl rfl
    obtain ⟨_, q9⟩ := F 9 f9 12 1 rfl rfl
    obtain ⟨n0, e0, -⟩ := open_i64 h0 q0
    obtain ⟨n1, e1, -⟩ := open_i64 h1 q1
    obtain ⟨n2, e2, -⟩ := open_i64 h2 q2
    obtain ⟨n3, e3, -⟩ := open_i64 h3 q3
    obtain ⟨n4, e4, -⟩ := open_i64 h4 q4
    obtain ⟨n5, e5, -⟩ := open_i64 h5 q5
    obtain ⟨n6, e6, -⟩ := open_i64 h6 q6
    obtain ⟨s8, e8⟩ := open_str h8 q8
    obtain ⟨s9, e9⟩ := open_str h9 q9
    obtain ⟨zs, m, _, _, _, hzl, hz⟩ := DataW.trod_array h7 q7
    rw [hCg] at hz
    have Z : ∀ k, k < 4 → ∃ u, zs[k]? = some u := fun k hk => ⟨_, List.getElem?_eq_getElem (by omega)⟩
    obtain ⟨u0, hu0⟩ := Z 0 (by omega)
    obtain ⟨u1, hu1⟩ := Z 1 (by omega)
    obtain ⟨u2, hu2⟩ := Z 2 (by omega)
    obtain ⟨u3, hu3⟩ := Z 3 (by omega)
    obtain ⟨t0, a0, -⟩ := open_i64 hg ((hz 0 (by omega)).trans hu0)
    obtain ⟨t1, a1, -⟩ := open_i64 hg ((hz 1 (by omega)).trans hu1)
    obtain ⟨t2, a2, -⟩ := open_i64 hg ((hz 2 (by omega)).trans hu2)
    obtain ⟨t3, a3, -⟩ := open_i64 hg ((hz 3 (by omega)).trans hu3)
    simp at e0 e1 e2 e3 e4 e5 e6 e8 e9 a0 a1 a2 a3
    subst e0 e1 e2 e3 e4 e5 e6 e8 e9 a0 a1 a2 a3
    exact ⟨⟨n0, n1, n2, n3, n4, n5, n6, t0, t1, t2, t3, s8, s9⟩, rfl⟩
theorem open_actw {e n : Nat} {cs : List Value} {y : DataW H × List MemPlace} {f0 f1 f2 f3 f4 f5 g0 g1 : Field} {k : TypeId} (he : P.underlying e = some (.struct #[f0, f1, f2, f3, f4, f5])) (hat : fieldsAt P #[f0, f1, f2, f3, f4, f5] [(0, 1), (1, 1), (2, 1), (3, 13), (16, 1), (17, 1)] = true) (hC : P.cellsOf e = 18)
    (h0 : P.underlying f0.type = some (.int .i64)) (h1 : P.underlying f1.type = some (.int .i64)) (h2 : P.underlying f2.type = some (.int .i64))
    (h3 : ∀ n cs y, DataW.trod enc P W base spare held n f3.type cs = some y → ∃ m : MsgM, cs = m.cells) (h4 : P.underlying f4.type = some .string)
    (h5 : P.underlying f5.type = some (.slice k)) (hk : P.underlying k = some (.struct #[g0, g1])) (honek : oneCellFields P #[g0, g1] = true) (hCk : P.cellsOf k = 2) (hg0 : P.underlying g0.type = some (.int .i64)) (hg1 : P.underlying g1.type = some (.int .i64))
    (h : DataW.trod enc P W base spare held n e cs = some y) : ∃ a : ActW, cs = a.cells ∧ @ActW.ok (envAt W) [baseSeg W] a := by
  obtain ⟨xs, n', _, _, hl, hxl, hf⟩ := DataW.trod_struct he h
  rw [hC] at hl
  have F := open_fld hat hf (by simpa using hxl)
  obtain ⟨_, q0⟩ := F 0 f0 0 1 rfl rfl
  obtain ⟨_, q1⟩ := F 1 f1 1 1 rfl rfl
  obtain ⟨_, q2⟩ := F 2 f2 2 1 rfl rfl
  obtain ⟨_, q3⟩ := F 3 f3 3 13 rfl rfl
  obtain ⟨_, q4⟩ := F 4 f4 16 1 rfl rfl
  obtain ⟨_, q5⟩ := F 5 f5 17 1 rfl rfl
  obtain ⟨n0, e0, -⟩ := open_i64 h0 q0
  obtain ⟨n1, e1, b1⟩ := open_i64 h1 q1
  obtain ⟨n2, e2, b2⟩ := open_i64 h2 q2
  obtain ⟨m, e3⟩ := h3 _ _ _ q3
  obtain ⟨s4, e4⟩ := open_str h4 q4
  obtain ⟨kv, ks, e5, hkk, _⟩ := open_keeps h5 hk honek hCk hg0 hg1 q5
  refine ⟨⟨n0, n1, n2, m, s4, kv, ks⟩, ?_, @ActW.ok.mk (envAt W) _ _ hkk b1 b2⟩
  match cs, hl with
  | [c0, c1, c2, c3, c4, c5, c6, c7, c8, c9, c10, c11, c12, c13, c14, c15, c16, c17], _ =>
    simp at e0 e1 e2 e3 e4 e5
    subst e0 e1 e2 e4 e5
    simp [ActW.cells, ← e3]
theorem open_actb {e n : Nat} {cs : List Value} {y : DataW H × List MemPlace} {f0 f1 f3 f4 f5 g0 g1 : Field} {k : TypeId} (he : P.underlying e = some (.struct #[f0, f1, f3, f4, f5])) (hat : fieldsAt P #[f0, f1, f3, f4, f5] [(0, 1), (1, 1), (2, 13), (15, 1), (16, 1)] = true) (hC : P.cellsOf e = 17)
    (h0 : P.underlying f0.type = some (.int .i64)) (h1 : P.underlying f1.type = some (.int .i64))
    (h3 : ∀ n cs y, DataW.trod enc P W base spare held n f3.type cs = some y → ∃ m : MsgM, cs = m.cells) (h4 : P.underlying f4.type = some .string)
    (h5 : P.underlying f5.type = some (.slice k)) (hk : P.underlying k = some (.struct #[g0, g1])) (honek : oneCellFields P #[g0, g1] = true) (hCk : P.cellsOf k = 2) (hg0 : P.underlying g0.type = some (.int .i64)) (hg1 : P.underlying g1.type = some (.int .i64))
    (h : DataW.trod enc P W base spare held n e cs = some y) : ∃ a : ActB, cs = a.cells ∧ @ActB.ok (envAt W) [baseSeg W] a := by
  obtain ⟨xs, n', _, _, hl, hxl, hf⟩ := DataW.trod_struct he h
  rw [hC] at hl
  have F := open_fld hat hf (by simpa using hxl)
  obtain ⟨_, q0⟩ := F 0 f0 0 1 rfl rfl
  obtain ⟨_, q1⟩ := F 1 f1 1 1 rfl rfl
  obtain ⟨_, q3⟩ := F 2 f3 2 13 rfl rfl
  obtain ⟨_, q4⟩ := F 3 f4 15 1 rfl rfl
  obtain ⟨_, q5⟩ := F 4 f5 16 1 rfl rfl
  obtain ⟨n0, e0, -⟩ := open_i64 h0 q0
  obtain ⟨n1, e1, b1⟩ := open_i64 h1 q1
  obtain ⟨m, e3⟩ := h3 _ _ _ q3
  obtain ⟨s4, e4⟩ := open_str h4 q4
  obtain ⟨kv, ks, e5, hkk, _⟩ := open_keeps h5 hk honek hCk hg0 hg1 q5
  refine ⟨⟨n0, n1, m, s4, kv, ks⟩, ?_, @ActB.ok.mk (envAt W) _ _ hkk b1⟩
  match cs, hl with
  | [c0, c1, c3, c4, c5, c6, c7, c8, c9, c10, c11, c12, c13, c14, c15, c16, c17], _ =>
    simp at e0 e1 e3 e4 e5
    subst e0 e1 e4 e5
    simp [ActB.cells, ← e3]
end
end Go.Sl
