/- A part of the proof: contracts and plain lemmas, each without conditions beyond those that it names. -/
import Derived.Test.YtnfbhgalkcmbdaaGreatGH
import Derived.DeepKeys
import Derived.Test.YtnfbhgalkcmbdaaGreatGE
set_option linter.unusedVariables false
set_option linter.unusedSimpArgs false
set_option linter.constructorNameAsVariable false
namespace Go.Sl
open Go
set_option linter.unusedSimpArgs false
inductive Kd where
  | b
  | i (k : IntKind)
  | s
def Kd.ok : Kd → Value → Bool
  | .b, .bool _ => true
  | .i k, .int k' _ => decide (k = k')
  | .s, .string _ => true
  | _, _ => false
def okL : List Kd → List Value → Bool
  | [], [] => true
  | k :: ks, v :: vs => k.ok v && okL ks vs
  | _, _ => false
theorem okL.len : ∀ {ks : List Kd} {vs : List Value}, okL ks vs = true → ks.length = vs.length
  | [], [], _ => rfl
  | [], _ :: _, h => by cases h
  | _ :: _, [], h => by cases h
  | k :: ks, v :: vs, h => by
    unfold okL at h
    rw [Bool.and_eq_true] at h
    rw [List.length_cons, List.length_cons, okL.len h.2]
theorem okL.split : ∀ {ps qs : List Kd} {vs : List Value}, okL (ps ++ qs) vs = true → okL ps (vs.take ps.length) = true ∧ okL qs (vs.drop ps.length) = true
  | [], qs, vs, h => by
    refine ⟨?_, by simpa using h⟩
    rfl
  | k :: ps, qs, [], h => by cases h
  | k :: ps, qs, v :: vs, h => by
    rw [List.cons_append] at h
    unfold okL at h
    rw [Bool.and_eq_true] at h
    obtain ⟨h1, h2⟩ := okL.split h.2
    refine ⟨?_, by simpa using h2⟩
    rw [List.length_cons, List.take_succ_cons]
    unfold okL
    rw [h.1, h1]; rfl
variable {P : Program}
variable {n : Nat} {l : List (Nat × Value)} {L : List Seg} {d : Option Tmp} {ty : TypeId} {pos : String} {af : Array Edge} {g : Option (Nat × Bool)}
end Go.Sl
namespace Go.Sl
open Go.ChangeShapes Go.WideShapes Go.ChangeAt Go.RowKit Go.Deep
set_option linter.unusedSimpArgs false
structure ActL where
  kind : Int
  n : Int
  s : Bytes
  kv : Value
  ks : Keeps
def ActL.cells (a : ActL) : List Value := [.int .i64 a.kind, .int .i64 a.n, .string ⟨a.s.toArray⟩, a.kv]
structure ActL.ok [Env] (R : List Seg) (a : ActL) : Prop where
  keeps : RdV R a.kv a.ks.length (keepsV a.ks)
  n : -9223372036854775808 ≤ a.n ∧ a.n ≤ 9223372036854775807
theorem ActL.ok.mono [Env] {R R' : List Seg} {a : ActL} (h : a.ok R) (hg : Ge R' R) : a.ok R' := ⟨h.keeps.mono hg, h.n⟩
def actlsV (l : List ActL) : List Value := (l.map ActL.cells).flatten
theorem actlsV_get {l : List ActL} {i : Nat} {a : ActL} (h : l[i]? = some a) : ((actlsV l).drop (i * 4)).take 4 = a.cells := flat_at (f := ActL.cells) (k := 4) (fun _ => rfl) l i a h
theorem ActL.ok.one [Env] {R : List Seg} {a : ActL} (h : a.ok R) : ∀ u ∈ a.cells, u.oneCell' = true := by
  intro u hu
  obtain ⟨b', c', e'⟩ := h.keeps.lenVal
  simp only [ActL.cells, List.mem_cons, List.not_mem_nil, or_false] at hu
  rcases hu with rfl | rfl | rfl | rfl
  · rfl
  · rfl
  · rfl
  · rw [e']; rfl
section
variable {H : Type} {enc : TypeId × Value → H} {P : Program} {W : World} {base : Nat} {spare : Nat → Bool} {held : Bool}
theorem open_actl {e n : Nat} {cs : List Value} {y : DataW H × List MemPlace} {f0 f1 f4 f5 g0 g1 : Field} {k : TypeId} (he : P.underlying e = some (.struct #[f0, f1, f4, f5])) (hat : fieldsAt P #[f0, f1, f4, f5] [(0, 1), (1, 1), (2, 1), (3, 1)] = true) (hC : P.cellsOf e = 4)
    (h0 : P.underlying f0.type = some (.int .i64)) (h1 : P.underlying f1.type = some (.int .i64)) (h4 : P.underlying f4.type = some .string)
    (h5 : P.underlying f5.type = some (.slice k)) (hk : P.underlying k = some (.struct #[g0, g1])) (honek : oneCellFields P #[g0, g1] = true) (hCk : P.cellsOf k = 2) (hg0 : P.underlying g0.type = some (.int .i64)) (hg1 : P.underlying g1.type = some (.int .i64))
    (h : DataW.trod enc P W base spare held n e cs = some y) : ∃ a : ActL, cs = a.cells ∧ @ActL.ok (envAt W) [baseSeg W] a := by
  obtain ⟨xs, n', _, _, hl, hxl, hf⟩ := DataW.trod_struct he h
  rw [hC] at hl
  have F := open_fld hat hf (by simpa using hxl)
  obtain ⟨_, q0⟩ := F 0 f0 0 1 rfl rfl
  obtain ⟨_, q1⟩ := F 1 f1 1 1 rfl rfl
  obtain ⟨_, q4⟩ := F 2 f4 2 1 rfl rfl
  obtain ⟨_, q5⟩ := F 3 f5 3 1 rfl rfl
  obtain ⟨n0, e0, -⟩ := open_i64 h0 q0
  obtain ⟨n1, e1, b1⟩ := open_i64 h1 q1
  obtain ⟨s4, e4⟩ := open_str h4 q4
  obtain ⟨kv, ks, e5, hkk, _⟩ := open_keeps h5 hk honek hCk hg0 hg1 q5
  refine ⟨⟨n0, n1, s4, kv, ks⟩, ?_, @ActL.ok.mk (envAt W) _ _ hkk b1⟩
  match cs, hl with
  | [c0, c1, c2, c3], _ =>
    simp at e0 e1 e4 e5
    subst e0 e1 e4 e5
    rfl
end
end Go.Sl
