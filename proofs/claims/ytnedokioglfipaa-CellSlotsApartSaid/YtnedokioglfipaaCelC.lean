/- A part of the proof: contracts and plain lemmas, each without conditions beyond those that it names. -/
import Derived.Test.YtnedokioglfipaaCelB
import Derived.Test.YtnedokioglfipaaSecE
import Derived.Test.YtnedokioglfipaaSecD
set_option linter.unusedVariables false
set_option linter.unusedSimpArgs false
set_option linter.constructorNameAsVariable false
namespace Go.Sl
set_option linter.unusedSimpArgs false
/-! puts on a device whose power is there -/
def CellM.next (C : CellM) (s : Bytes) : CellM := { C with now := if C.now = 0 then 1 else 0, gen := C.gen + 1, text := s }
structure PutOk (C : CellM) (D : Dev) (s : Bytes) (n : Nat) (D' : Dev) : Prop where
  up : Up D' n
  es : D'.es = []
  other : D'.sec C.other = pad (slotM (C.gen + 1) s)
  same : ∀ j : Int, 0 ≤ j → j < n → j ≠ C.other → D'.sec j = D.sec j
theorem other_in {C : CellM} {n : Nat} (h : C.ok n) : 0 ≤ C.other ∧ C.other < n := by
  have h1 := h.a
  have h2 := h.b
  unfold CellM.other; split <;> omega
theorem put_good {C : CellM} {D : Dev} {s : Bytes} {n : Nat} (hU : Up D n) (hC : C.ok n) (hs : s.length ≤ 100) (hg : C.gen < 4611686018427387904) : ∃ D', C.put D s = (0, C.next s, D') ∧ PutOk C D s n D' := by
  obtain ⟨o1, o2⟩ := other_in hC
  have hgen := hC.gen
  have hw : IntKind.i64.wrap (C.gen + 1) = C.gen + 1 := wr (by omega) (by omega)
  have hle := slotM_le (C.gen + 1) s
  have hwr : (D.write C.other (slotM (C.gen + 1) s)).1 = 0 := by
    rw [hU.write, if_neg (by omega), if_neg (by omega)]
  have hU2 := hU.write_up C.other (slotM (C.gen + 1) s)
  have hs1 := hU.sec_write_same hwr
  obtain ⟨w, hw2⟩ : ∃ w, D.write C.other (slotM (C.gen + 1) s) = w := ⟨_, rfl⟩
  have hso : ∀ j : Int, j ≠ C.other → w.2.sec j = D.sec j := fun j hj => by rw [← hw2]; exact hU.sec_write_other (Ne.symm hj) _
  rw [hw2] at hwr hU2 hs1
  have hb := hU2.barrier
  refine ⟨w.2.barrier.2, ?_, hU2.barrier_up, barrier_es hU2, ?_, fun j h0 h1 hj => ?_⟩
  · rw [put_done (by omega) (by omega) (by rw [hw]; exact hw2) hwr rfl (by rw [hb]), hw]
    rfl
  · rw [hU2.sec_barrier o1 (by omega), hs1.1]
  · rw [hU2.sec_barrier h0 (by omega), hso j hj]
theorem next_ok {C : CellM} {s : Bytes} {n : Nat} (hC : C.ok n) (hs : s.length ≤ 100) (hg : C.gen < 4611686018427387904) : (C.next s).ok n := by
  have hgen := hC.gen
  refine ⟨hC.a, hC.b, hC.ab, ?_, ?_, hs⟩
  · simp only [CellM.next]; split <;> omega
  · simp only [CellM.next]; omega
theorem see_none (C : CellM) (i : Int) : C.see i none = C := rfl
theorem see_some (C : CellM) (i : Int) (q : Int × Bytes) : C.see i (some q) = if C.gen < q.1 then { C with now := i, gen := q.1, text := q.2 } else C := rfl
def pickC (a b : Int) (ra rb : Option (Int × Bytes)) : CellM := ((CellM.init a b).see 0 ra).see 1 rb
theorem pick_nn (a b : Int) : pickC a b none none = ⟨a, b, -1, 0, []⟩ := rfl
theorem pick_sn (a b : Int) {p : Int × Bytes} (hp : 1 ≤ p.1) : pickC a b (some p) none = ⟨a, b, 0, p.1, p.2⟩ := by
  show (CellM.init a b).see 0 (some p) = _
  rw [see_some, if_pos (by show (0 : Int) < _; omega)]; rfl
theorem pick_ns (a b : Int) {q : Int × Bytes} (hq : 1 ≤ q.1) : pickC a b none (some q) = ⟨a, b, 1, q.1, q.2⟩ := by
  show (CellM.init a b).see 1 (some q) = _
  rw [see_some, if_pos (by show (0 : Int) < _; omega)]; rfl
theorem pick_ss (a b : Int) {p q : Int × Bytes} (hp : 1 ≤ p.1) : pickC a b (some p) (some q) = if p.1 < q.1 then ⟨a, b, 1, q.1, q.2⟩ else ⟨a, b, 0, p.1, p.2⟩ := by
  have h : (CellM.init a b).see 0 (some p) = ⟨a, b, 0, p.1, p.2⟩ := by rw [see_some, if_pos (by show (0 : Int) < _; omega)]; rfl
  unfold pickC
  rw [h, see_some]
/-- What is opened behind a put is what was put. -/
theorem pick_next {a b : Int} {ra rb ra' rb' : Option (Int × Bytes)} {s : Bytes} (hab : a ≠ b) (ha : ∀ q, ra = some q → 1 ≤ q.1) (hb : ∀ q, rb = some q → 1 ≤ q.1)
    (h1 : (pickC a b ra rb).other = a → ra' = some ((pickC a b ra rb).gen + 1, s) ∧ rb' = rb) (h2 : (pickC a b ra rb).other = b → rb' = some ((pickC a b ra rb).gen + 1, s) ∧ ra' = ra) : pickC a b ra' rb' = (pickC a b ra rb).next s := by
  cases ra with
  | none =>
    cases rb with
    | none =>
      obtain ⟨rfl, rfl⟩ := h1 rfl
      rw [pick_nn, pick_sn _ _ (by dsimp only; omega)]; rfl
    | some q =>
      have hq := hb q rfl
      rw [pick_ns _ _ hq] at h1 ⊢
      obtain ⟨rfl, rfl⟩ := h1 rfl
      rw [pick_ss _ _ (by dsimp only; omega), if_neg (by dsimp only; omega)]; rfl
  | some p =>
    have hp := ha p rfl
    cases rb with
    | none =>
      rw [pick_sn _ _ hp] at h2 ⊢
      obtain ⟨rfl, rfl⟩ := h2 rfl
      rw [pick_ss _ _ hp, if_pos (by dsimp only; omega)]; rfl
    | some q =>
      have hq := hb q rfl
      rw [pick_ss _ _ hp] at h1 h2 ⊢
      by_cases hlt : p.1 < q.1
      · rw [if_pos hlt] at h1 ⊢
        obtain ⟨rfl, rfl⟩ := h1 rfl
        rw [pick_ss _ _ (by dsimp only; omega), if_neg (by dsimp only; omega)]; rfl
      · rw [if_neg hlt] at h2 ⊢
        obtain ⟨rfl, rfl⟩ := h2 rfl
        rw [pick_ss _ _ hp, if_pos (by dsimp only; omega)]; rfl
theorem openC_ab (D : Dev) (a b : Int) : (openC D a b).a = a ∧ (openC D a b).b = b := by
  have h1 := seeTo_a D a b 2
  rwa [seeTo_two] at h1
theorem open_next {D D' : Dev} {a b : Int} {s : Bytes} {n : Nat} (hn : D.l.length = n) (hok : openE D a b = 0) (hs : s.length ≤ 100) (hg : (openC D a b).gen < 4611686018427387904) (hp : PutOk (openC D a b) D s n D') : openC D' a b = (openC D a b).next s := by
  obtain ⟨hC, -⟩ := openC_ok hok
  rw [hn] at hC
  have hsl : slotOk ((openC D a b).gen + 1) s = true := by rw [slotOk_iff]; have := hC.gen; omega
  have hro : readM (D'.sec (openC D a b).other) = some ((openC D a b).gen + 1, s) := by rw [hp.other]; exact readM_pad hsl
  have e := openC_ab D a b
  have hab := hC.ab
  have hina := hC.a
  have hinb := hC.b
  rw [e.1, e.2] at hab
  rw [e.1] at hina
  rw [e.2] at hinb
  refine pick_next hab (fun q h => (slotOk_iff.1 (readM_ok (g := q.1) (t := q.2) h)).1) (fun q h => (slotOk_iff.1 (readM_ok (g := q.1) (t := q.2) h)).1) ?_ ?_
  · intro (ho : (openC D a b).other = a)
    rw [ho] at hro
    exact ⟨hro, by rw [hp.same b hinb.1 hinb.2 (by rw [ho]; exact Ne.symm hab)]⟩
  · intro (ho : (openC D a b).other = b)
    rw [ho] at hro
    exact ⟨hro, by rw [hp.same a hina.1 hina.2 (by rw [ho]; exact hab)]⟩
theorem open_same {D D' : Dev} {a b : Int} (ha : D'.sec a = D.sec a) (hb : D'.sec b = D.sec b) : openC D' a b = openC D a b := by unfold openC; rw [ha, hb]
theorem open_new {n : Nat} {a b : Int} (ha : 0 ≤ a) (han : a < n) (hb : 0 ≤ b) (hbn : b < n) : openC (Dev.new n) a b = CellM.init a b := by
  have hz : ∀ i : Int, 0 ≤ i → i < n → (Dev.new n).sec i = zsec := fun i h0 h1 => by
    simp [Dev.sec, Dev.new, eget, show i.toNat < n by omega]
  unfold openC
  rw [hz a ha han, hz b hb hbn, readM_zero]
  rfl
theorem new_up {n : Nat} (hn : n ≤ 512) : Up (Dev.new n) n := ⟨Dev.new_ok hn, by simp [Dev.new], rfl, rfl⟩
theorem openE_up {D : Dev} {n : Nat} (hU : Up D n) {a b : Int} (hab : a ≠ b) (ha : 0 ≤ a ∧ a < n) (hb : 0 ≤ b ∧ b < n) : openE D a b = 0 := by
  refine openE_ok hab (by omega) (by rw [hU.len]; omega) (by rw [hU.live]; decide)
end Go.Sl
