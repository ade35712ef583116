/- A part of the proof: contracts and plain lemmas, each without conditions beyond those that it names. -/
import Derived.Test.YtnedokioglfipaaSlE
set_option linter.unusedVariables false
set_option linter.unusedSimpArgs false
set_option linter.constructorNameAsVariable false
namespace Go.Sl
set_option linter.unusedSimpArgs false
section
variable {P : Program} {ops : Array Oper} {n : Nat} {rest : List Oper} {Q : Exit → Act → World → Prop} {l : List (Nat × Value)} {L : List Seg}

/-! ### what stands behind: unwinding -/
theorem kthn [Env] {K : Act → World → Prop} (h : Sk n K l L) : Sk n (Exit.then K Q .normal) l L := h
theorem kthx [Env] {K : Act → World → Prop} {i : Nat} (h : Sk n (Q (.exit i)) l L) : Sk n (Exit.then K Q (.exit i)) l L := h
theorem kthr [Env] {K : Act → World → Prop} (h : Sk n (Q .ret) l L) : Sk n (Exit.then K Q .ret) l L := h
theorem kbn [Env] {i : Nat} (h : Sk n (Q .normal) l L) : Sk n (Exit.inBlock i Q .normal) l L := h
theorem kbr [Env] {i : Nat} (h : Sk n (Q .ret) l L) : Sk n (Exit.inBlock i Q .ret) l L := h
theorem kbx [Env] {i : Nat} (h : Sk n (Q .normal) l L) : Sk n (Exit.inBlock i Q (.exit i)) l L := fun a w hf hh => by simpa [Exit.inBlock] using h a w hf hh
theorem kbp [Env] {i j : Nat} (hij : Nat.beq j i = false) (h : Sk n (Q (.exit j)) l L) : Sk n (Exit.inBlock i Q (.exit j)) l L := fun a w hf hh => by
  have : ¬ j = i := fun e => by subst e; simp at hij
  simpa [Exit.inBlock, this] using h a w hf hh

theorem kretv [Env] {fn : Func} {R L1 : List Seg} {post : Value → List Seg → Prop} {t : Tmp} {v : Value} (hr : fn.results = #[.tmp t]) (hl : look l t = some v) (hg : Ge L L1) (hp : ∃ L', post v L' ∧ L1 = L' ++ R) :
    Sk n (bodyPost P fn (CP post R) .ret) l L := by
  obtain ⟨L', h1, rfl⟩ := hp
  exact kret hr hl L' h1 hg
theorem kretv2 [Env] {fn : Func} {R L1 : List Seg} {post : Value → List Seg → Prop} {t u : Tmp} {v v' : Value} (hr : fn.results = #[.tmp t, .tmp u]) (hl : look l t = some v) (hl' : look l u = some v') (hg : Ge L L1) (hp : ∃ L', post (.tuple #[v, v']) L' ∧ L1 = L' ++ R) :
    Sk n (bodyPost P fn (CP post R) .ret) l L := by
  obtain ⟨L', h1, rfl⟩ := hp
  exact kret2 hr hl hl' L' h1 hg
theorem kretv3 [Env] {fn : Func} {R L1 : List Seg} {post : Value → List Seg → Prop} {t u s : Tmp} {v v' v'' : Value} (hr : fn.results = #[.tmp t, .tmp u, .tmp s]) (hl : look l t = some v) (hl' : look l u = some v') (hl'' : look l s = some v'') (hg : Ge L L1) (hp : ∃ L', post (.tuple #[v, v', v'']) L' ∧ L1 = L' ++ R) :
    Sk n (bodyPost P fn (CP post R) .ret) l L := by
  obtain ⟨L', h1, rfl⟩ := hp
  exact kret3 hr hl hl' hl'' L' h1 hg
theorem kretv0 [Env] {fn : Func} {R L1 : List Seg} {post : Value → List Seg → Prop} (hr : fn.results = #[]) (hg : Ge L L1) (hp : ∃ L', post (.tuple #[]) L' ∧ L1 = L' ++ R) :
    Sk n (bodyPost P fn (CP post R) .ret) l L := by
  obtain ⟨L', h1, rfl⟩ := hp
  exact kret0 hr L' h1 hg
theorem kendv0 [Env] {fn : Func} {R L1 : List Seg} {post : Value → List Seg → Prop} (hr : fn.results = #[]) (hg : Ge L L1) (hp : ∃ L', post (.tuple #[]) L' ∧ L1 = L' ++ R) :
    Sk n (bodyPost P fn (CP post R) .normal) l L := by
  obtain ⟨L', h1, rfl⟩ := hp
  exact kend0 hr L' h1 hg
end
end Go.Sl
