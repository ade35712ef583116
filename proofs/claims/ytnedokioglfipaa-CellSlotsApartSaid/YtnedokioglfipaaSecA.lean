/- A part of the proof: contracts and plain lemmas, each without conditions beyond those that it names. -/
import Derived.Test.YtnedokioglfipaaSlS
set_option linter.unusedVariables false
set_option linter.unusedSimpArgs false
set_option linter.constructorNameAsVariable false
namespace Go.Sl
/-! the device that 'awake' tries -/
def aD0 : Dev := Dev.new 2
def aD1 : Dev := (aD0.write 1 [97, 98]).2
def aD2 : Dev := aD1.barrier.2
def aD3 : Dev := (aD2.write 1 [120, 121, 122]).2
def aD4 : Dev := aD3.crash [(2, 1)]
def aD5 : Dev := aD4.setFuse 0
def aD6 : Dev := (aD5.write 0 []).2
theorem aD0_ok : aD0.ok := Dev.new_ok (by decide)
theorem aD1_ok : aD1.ok := Dev.write_ok aD0_ok _ _
theorem aD2_ok : aD2.ok := Dev.barrier_ok aD1_ok
theorem aD3_ok : aD3.ok := Dev.write_ok aD2_ok _ _
theorem aD4_ok : aD4.ok := Dev.crash_ok aD3_ok _
theorem aD5_ok : aD5.ok := Dev.setFuse_ok aD4_ok (by decide)
theorem aw1 : (aD0.write 1 [97, 98]).1 = 0 := by decide
theorem aw2 : aD1.barrier.1 = 0 := by decide
theorem aw3 : (aD2.write 1 [120, 121, 122]).1 = 0 := by decide
theorem aw3e : aD3.es.map (·.1) = [1] := by decide
theorem aw3n : aD3.es.length = 1 := by decide
theorem aw3p : aD3.pending = [1] := by unfold Dev.pending; rw [aw3e]; simp
theorem aw4 : aD4 = { aD3 with l := crashL aD3 [1] [(2, 1)] aD3.l, es := [], dead := false, fuse := -1 } := by unfold aD4 Dev.crash; rw [aw3p]
theorem aw4h : aD4.has 1 = 0 := by rw [aw4]; decide
theorem aw4s : (aD4.sec 1).take 3 = [120, 98, 0] := by rw [aw4]; decide
theorem aw6 : (aD5.write 0 []).1 = 30 := by unfold aD5; rw [aw4]; decide
theorem aw6d : aD6.dead = true := by unfold aD6 aD5; rw [aw4]; decide
theorem aw6l : aD6.l.length = 2 := by unfold aD6 aD5; rw [aw4]; decide

/-! acts, as they are told -/
structure ActM where
  kind : Int
  i : Int
  bv : Value
  bs : Bytes
  kv : Value
  ks : Keeps
def ActM.cells (a : ActM) : List Value := [.int .i64 a.kind, .int .i64 a.i, a.bv, a.kv]
structure ActM.ok [Env] (R : List Seg) (a : ActM) : Prop where
  bytes : RdB R a.bv a.bs
  keeps : RdV R a.kv a.ks.length (keepsV a.ks)
  int : a.i ≤ 9223372036854775807
theorem ActM.ok.mono [Env] {R R' : List Seg} {a : ActM} (h : a.ok R) (hg : Ge R' R) : a.ok R' := ⟨h.bytes.mono hg, h.keeps.mono hg, h.int⟩
theorem cells_one [Env] {R : List Seg} {a : ActM} (h : a.ok R) : ∀ u ∈ a.cells, u.oneCell' = true := by
  intro u hu
  obtain ⟨b, c, e⟩ := h.bytes.lenVal
  obtain ⟨b', c', e'⟩ := h.keeps.lenVal
  simp only [ActM.cells, List.mem_cons, List.not_mem_nil, or_false] at hu
  rcases hu with rfl | rfl | rfl | rfl
  · rfl
  · rfl
  · rw [e]; rfl
  · rw [e']; rfl
def actsV (l : List ActM) : List Value := (l.map ActM.cells).flatten
theorem actsV_get : ∀ (l : List ActM) (k : Nat) (a : ActM), l[k]? = some a → ((actsV l).drop (k * 4)).take 4 = a.cells
  | [], k, x, h => by simp at h
  | y :: ks, 0, x, h => by simp at h; subst h; simp [actsV, ActM.cells]
  | y :: ks, k + 1, x, h => by
    have := actsV_get ks k x (by simpa using h)
    rw [show (k + 1) * 4 = 4 + k * 4 by omega, ← List.drop_drop]
    simpa [actsV, ActM.cells] using this
def ActM.large (a : ActM) : Bool := decide ((1000 : Int) < a.bs.length) || decide ((600 : Int) < a.ks.length)
def Dev.play (D : Dev) (a : ActM) : Dev :=
  if a.kind = 0 then (D.write a.i a.bs).2 else if a.kind = 1 then D.barrier.2 else if a.kind = 2 then D.setFuse a.i else if a.kind = 3 then D.crash a.ks else if a.kind = 4 then D.lose else D
theorem Dev.play_ok {D : Dev} (h : D.ok) {a : ActM} (ha : a.i ≤ 9223372036854775807) : (D.play a).ok := by
  unfold Dev.play
  split
  · exact Dev.write_ok h _ _
  · split
    · exact Dev.barrier_ok h
    · split
      · exact Dev.setFuse_ok h ha
      · split
        · exact Dev.crash_ok h _
        · split
          · exact Dev.lose_ok h
          · exact h
end Go.Sl
